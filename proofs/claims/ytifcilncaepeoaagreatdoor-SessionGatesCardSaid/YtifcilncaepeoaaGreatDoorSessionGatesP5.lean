/-
  A part of the proof of SessionGates: The walks of this seat, printed by program: feed.Feed.Take, feed.Feed.Rest, feed.Feed.Err. The walks of this seat, printed by program: mail.Check, mail.Bytes, draft.Life, stairwellref26.Life, deed.maybe, deed.bound, mail.Same, deed.Same. The walks of this seat, printed by program: deed.Deed.told, deed.first, deed.Deed.Check. The walks of this seat, printed by program: deed.Deed.Bytes. The walks of this seat, printed by program: stairwellref04.Name, stairwellref04.Split, stairwellref04.Key. The walks of this seat, printed by program: stairwellref09.Pair, stairwellref09.Check, stairwellref09.Same. The walks of this seat, printed by program: stairwelllaw09.Light, stairwelllaw12.To, stairwelllaw13.Light, stairwelllaw22.Light, stairwelllaw14.To, stairwelllaw22.To. The walks of this seat, printed by program: stairwellref13.Same, stairwellref14.SameBind, stairwellref22.Same, stairwellref22.names, stairwellref22.maybe, stairwellref22.spare, stairwellref22.checkBind, stairwellref13.Check, stairwellref22.Check. The walks of this seat, printed by program: match.Rule.Check, match.Rule.heads, match.Rule.Goes, match.Same. The walks of this seat, printed by program: slices.Equal[[]string,string], slices.Index[[]string,string], slices.Contains[[]string,string], route.Shop.check, route.Book.Shop. The walks of this seat, printed by program: route.Bind.rule, route.Bind.same, api.Pair], route.Bind.clone, route.Bind]. The walks of this seat, printed by program: stairwelllaw01.awake, stairwelllaw01.Awake, stairwelllaw04.awake, stairwelllaw04.Awake, stairwelllaw09.awake, stairwelllaw09.Awake, stairwelllaw10.awake, stairwelllaw10.Awake, stairwelllaw13.awake, stairwelllaw13.Awake. The walks of this seat, printed by program: stairwelllaw02.awake, stairwelllaw02.Awake, stairwelllaw07.awake, stairwelllaw07.Awake. The walks of this seat, printed by program: stairwellref01.Num. The walks of this seat, printed by program: stairwellref02.Step, stairwellref02.Sum. The walks of this seat, printed by program: deed.Deed], deed.Deed], deed.Deed], deed.Deed], chans.Taker], chans.Taker], chans.Taker], chans.Taker], chans.Lent], chans.Lent], chans.Lent], chans.Lent], route.Shop], route.Shop], route.Bind], route.Bind]. The walks of this seat, printed by program: draft.Draft.Settles$1, draft.Draft.Settles, draft.clone, draft.Draft.check, stairwellref26.Settles, chans.New, chans.Chan.Credit, chans.Chan.Room, chans.Chan.of$1, chans.Chan.of, chans.Chan.Sure, chans.Chan.Put, chans.Chan.Number, chans.Chan.Draft, chans.Chan.Drafts, chans.Chan.Undo, stairwellref27.New, stairwellref27.Credit, stairwellref27.Room, stairwellref27.Sure, stairwellref27.Put, stairwellref27.Draft, stairwellref27.Undo.
-/
import Derived.Test.YtifcilncaepeoaaGreatDoorProg
import Derived.KernelRfl
import Derived.Test.YtifcilncaepeoaaGreatDoorSessionGatesP4
import Derived.Test.YtifcilncaepeoaaGreatDoorSessionGatesP3
set_option linter.unusedVariables false
set_option linter.unusedSimpArgs false
set_option linter.unusedVariables false
set_option maxRecDepth 100000
set_option maxHeartbeats 4000000
namespace Go.SW.V
open Go.SW Go.Proofs
theorem cb146 : Callable Tryz.prog 146 := callable_of Tryz.func146 (by kernel_rfl) (by kernel_rfl)
theorem cb74 : Callable Tryz.prog 74 := callable_of Tryz.func74 (by kernel_rfl) (by kernel_rfl)
theorem cb76 : Callable Tryz.prog 76 := callable_of Tryz.func76 (by kernel_rfl) (by kernel_rfl)
def tbv12 : Tb := [(9, ⟨.str, 1, 16, [.str []]⟩),
  (40, ⟨.int .i64, 1, 8, [.int .i64 0]⟩),
  (70, ⟨.agg [(0, 1), (1, 1)], 2, 24, [.str [], .int .i64 0]⟩),
  (154, ⟨.slc 158, 1, 24, [.sl Frame.pc []]⟩),
  (158, ⟨.agg [(0, 1), (1, 1), (2, 1)], 3, 24, [.int .u8 0, .int .u8 0, .str []]⟩)]
theorem tv12 : tbB Tryz.prog tbv12 = true := by kernel_rfl
theorem feed_Take (f : Feed) (chunk : Bs) (hfl : f.rest.length + chunk.length ≤ 4000000000) : Fo Tryz.prog gb 74 [.agg (Feed.pc f), .str chunk] (fun u => .tup [.agg (Feed.pc ((feedTake f chunk).1)), .val u]) 3 158 Frame.pc ((feedTake f chunk).2) := by
  refine fo_cw tv12 Tryz.func74 rfl Tryz.ntmps74 rfl cb74 (fun _ => rfl) rfl fun w N H hG => ?_
  have chunk_l : chunk.length ≤ 9223372036854775807 := w.2.1
  refine go tv12 2 rfl rfl trivial ?_
  refine ef (boxA 0 rfl rfl rfl fun b1 => ?_)
  refine ef (alloc tv12 1 rfl rfl rfl rfl fun b2 => ?_)
  refine go tv12 12 rfl rfl trivial ?_
  refine cnd rfl (fun h3 => ?_) (fun h3 => ?_)
  · have h4 := not_t h3
    have p5 := df h4
    refine go tv12 3 rfl rfl trivial ?_
    refine ef (storeA tv12 rfl rfl rfl rfl rfl rfl rfl rfl rfl rfl ?_)
    refine go tv12 3 rfl rfl trivial ?_
    refine sw_own (t := 5) (k := 3) (e := 158) 2 Frame.pc rfl rfl ?_
    refine sw_val (t := 5) (i := 2) rfl rfl ?_
    refine go tv12 3 rfl rfl trivial ?_
    refine ro2 (j := 2) rfl rfl rfl ?_ ?_
    · simp [feedTake, *]
    exact ple (by simp [feedTake, Feed.pc, *])
  have h6 := not_f h3
  have p7 := dt h6
  refine go tv12 14 rfl rfl ⟨(by first | omega | (simp <;> omega)), trivial⟩ ?_
  refine ef (store1 tv12 rfl rfl rfl rfl rfl rfl rfl rfl rfl ?_)
  refine go tv12 7 rfl rfl trivial ?_
  refine sw_own (t := 6) (k := 3) (e := 158) 2 Frame.pc rfl rfl ?_
  refine loop (ι := Nat × (List Frame) × Value × Feed) [0, 1, 2, 4, 5, 10, 11, 12, 14, 15, 16, 17, 18] [1] (fun ⟨k, out, u_out, g⟩ => [(6, .osl 2)]) (fun ⟨k, out, u_out, g⟩ => [(2, .arr u_out 3 158 Frame.pc out), (0, .box b1 70 [.str g.rest, .int .i64 g.err])]) (fun ⟨k, out, u_out, g⟩ => feedTake f chunk = feedGo k g.rest out ∧ g.err = f.err ∧ g.rest.length < k ∧ (g.rest.length : Int) + out.length ≤ f.rest.length + chunk.length) (fun ⟨k, out, u_out, g⟩ => k) ⟨((f.rest ++ chunk).length + 1), [], (.slice none 0 0), (⟨(f.rest ++ chunk), f.err⟩ : Feed)⟩ ⟨rfl, trivial⟩ ⟨rfl, rfl, trivial⟩ ?_ ?_
  · exact ⟨by simp [feedTake, *], rfl, by simp, by simp⟩
  rintro ⟨k, out, u_out, g⟩ hp8
  obtain ⟨hk1, hk4, hk2, hk3⟩ := hp8
  refine go tv12 5 rfl rfl trivial ?_
  refine call (frame_Parse _ (by first | omega | (simp <;> omega))) rfl rfl fun w9 => ?_
  have hpo := parseF_ok g.rest
  refine go tv12 4 rfl rfl trivial ?_
  refine ef (alloc tv12 3 rfl rfl rfl rfl fun b10 => ?_)
  refine ef (storeA tv12 rfl rfl rfl rfl rfl rfl rfl rfl rfl rfl ?_)
  refine go tv12 16 rfl rfl trivial ?_
  refine cnd rfl (fun h11 => ?_) (fun h11 => ?_)
  · have p12 := dt h11
    refine go tv12 4 rfl rfl trivial ?_
    refine ef (bsl 4 Frame.pc [((parseF g.rest).1)] tv12 rfl rfl rfl rfl rfl (fun _ => rfl) rfl (by decide) (by decide) rfl fun u13 => ?_)
    refine ef (app tv12 [((parseF g.rest).1)] rfl rfl rfl rfl rfl rfl rfl rfl rfl (src_o rfl rfl) (by first | omega | (simp; omega)) rfl fun u14 => ?_)
    refine go tv12 7 rfl rfl trivial ?_
    refine q1 (sslo tv12 ((parseF g.rest).2.1).toNat rfl rfl rfl rfl (by omega) (by first | omega | (have := hpo (by assumption); omega))) rfl fun w15 => ?_
    refine go tv12 1 rfl rfl trivial ?_
    refine ef (store1 tv12 rfl rfl rfl rfl rfl rfl rfl rfl rfl ?_)
    refine go tv12 3 rfl rfl trivial ?_
    refine next ⟨(k - 1), (out ++ [((parseF g.rest).1)]), (u14), (⟨(g.rest.drop ((parseF g.rest).2.1).toNat), g.err⟩ : Feed)⟩ rfl rfl ⟨rfl, trivial⟩ ⟨rfl, rfl, trivial⟩ ?_ ?_
    · (try simp only []); omega
    try simp only []
    have hp0 : (parseF g.rest).2.2 = 0 := by assumption
    have hpo := hpo hp0
    refine ⟨?_, hk4, by simp; omega, by simp; omega⟩
    obtain ⟨j, rfl⟩ : ∃ j, k = j + 1 := ⟨k - 1, by omega⟩
    rw [hk1]
    simp only [feedGo, Nat.add_sub_cancel]
    rw [if_pos hp0]
  have p16 := df h11
  refine go tv12 6 rfl rfl trivial ?_
  refine cnd rfl (fun h17 => ?_) (fun h17 => ?_)
  · have p18 := dt h17
    refine go tv12 10 rfl rfl trivial ?_
    refine ef (storeA tv12 rfl rfl rfl rfl rfl rfl rfl rfl rfl rfl ?_)
    refine go tv12 3 rfl rfl trivial ?_
    refine sw_val (t := 5) (i := 2) rfl rfl ?_
    refine go tv12 2 rfl rfl trivial ?_
    refine ro2 (j := 2) rfl rfl rfl ?_ ?_
    · have e : feedTake f chunk = (⟨g.rest, g.err⟩, out) := by
        obtain ⟨j, rfl⟩ : ∃ j, k = j + 1 := ⟨k - 1, by omega⟩
        rw [hk1]
        simp [feedGo, *]
      rw [e]
    have e : feedTake f chunk = (⟨g.rest, g.err⟩, out) := by
      obtain ⟨j, rfl⟩ : ∃ j, k = j + 1 := ⟨k - 1, by omega⟩
      rw [hk1]
      simp [feedGo, *]
    exact ple (by rw [e]; rfl)
  have p19 := df h17
  refine go tv12 4 rfl rfl trivial ?_
  refine ef (storeA tv12 rfl rfl rfl rfl rfl rfl rfl rfl rfl rfl ?_)
  refine go tv12 12 rfl rfl trivial ?_
  refine ef (storeA tv12 rfl rfl rfl rfl rfl rfl rfl rfl rfl rfl ?_)
  refine go tv12 3 rfl rfl trivial ?_
  refine sw_val (t := 5) (i := 2) rfl rfl ?_
  refine go tv12 2 rfl rfl trivial ?_
  refine ro2 (j := 2) rfl rfl rfl ?_ ?_
  · have e : feedTake f chunk = (⟨[], (parseF g.rest).2.2⟩, out) := by
      obtain ⟨j, rfl⟩ : ∃ j, k = j + 1 := ⟨k - 1, by omega⟩
      rw [hk1]
      simp [feedGo, *]
    rw [e]
  have e : feedTake f chunk = (⟨[], (parseF g.rest).2.2⟩, out) := by
    obtain ⟨j, rfl⟩ : ∃ j, k = j + 1 := ⟨k - 1, by omega⟩
    rw [hk1]
    simp [feedGo, *]
  exact ple (by rw [e]; rfl)
theorem feed_Rest (f : Feed) : Fn Tryz.prog gb 146 [.agg (Feed.pc f)] (.str f.rest) := by
  refine fn_cw tv12 Tryz.func146 rfl Tryz.ntmps146 rfl cb146 rfl rfl fun w N H hG => ?_
  refine go tv12 2 rfl rfl trivial ?_
  refine ef (boxA 0 rfl rfl rfl fun b1 => ?_)
  refine go tv12 11 rfl rfl trivial ?_
  refine rt1 rfl rfl ?_
  refine ple ?_
  rfl
theorem feed_Err (f : Feed) : Fn Tryz.prog gb 76 [.agg (Feed.pc f)] (.int .i64 f.err) := by
  refine fn_cw tv12 Tryz.func76 rfl Tryz.ntmps76 rfl cb76 rfl rfl fun w N H hG => ?_
  refine go tv12 2 rfl rfl trivial ?_
  refine ef (boxA 0 rfl rfl rfl fun b1 => ?_)
  refine go tv12 11 rfl rfl trivial ?_
  refine rt1 rfl rfl ?_
  refine ple ?_
  rfl
end Go.SW.V
set_option linter.unusedVariables false
set_option maxRecDepth 100000
set_option maxHeartbeats 4000000
namespace Go.SW.V
open Go.SW Go.Proofs
theorem ag27 : Ag Tryz.prog 27 false := fun w => by kernel_rfl
theorem cb111 : Callable Tryz.prog 111 := callable_of Tryz.func111 (by kernel_rfl) (by kernel_rfl)
theorem cb215 : Callable Tryz.prog 215 := callable_of Tryz.func215 (by kernel_rfl) (by kernel_rfl)
theorem cb218 : Callable Tryz.prog 218 := callable_of Tryz.func218 (by kernel_rfl) (by kernel_rfl)
theorem cb219 : Callable Tryz.prog 219 := callable_of Tryz.func219 (by kernel_rfl) (by kernel_rfl)
theorem cb220 : Callable Tryz.prog 220 := callable_of Tryz.func220 (by kernel_rfl) (by kernel_rfl)
theorem cb238 : Callable Tryz.prog 238 := callable_of Tryz.func238 (by kernel_rfl) (by kernel_rfl)
theorem cb243 : Callable Tryz.prog 243 := callable_of Tryz.func243 (by kernel_rfl) (by kernel_rfl)
theorem eqg44 : Tryz.prog.eqGuardType Tryz.prog.depth 44 = false := by kernel_rfl
theorem eqg46 : Tryz.prog.eqGuardType Tryz.prog.depth 46 = false := by kernel_rfl
theorem veq44 (p q : ShopR) : ∀ (H : Hp) (vs us : List Value), Sims H (ShopR.pc p) vs → Sims H (ShopR.pc q) us → EqV Tryz.prog 10000 44 (.agg vs.toArray) (.agg us.toArray) (decide (p = q)) := by
  intro H vs us hv hu
  obtain ⟨_, _, rfl, v0, v_0⟩ := hv.inv_cons
  obtain ⟨_, _, rfl, v1, v_1⟩ := v_0.inv_cons
  obtain ⟨_, _, rfl, v2, v_2⟩ := v_1.inv_cons
  cases v_2.inv_nil
  cases v0.inv_str.1; cases v1.inv_int.1; cases v2.inv_str.1
  obtain ⟨_, _, rfl, u0, u_0⟩ := hu.inv_cons
  obtain ⟨_, _, rfl, u1, u_1⟩ := u_0.inv_cons
  obtain ⟨_, _, rfl, u2, u_2⟩ := u_1.inv_cons
  cases u_2.inv_nil
  cases u0.inv_str.1; cases u1.inv_int.1; cases u2.inv_str.1
  exact EqV.to (eqv_agg Tryz.underlying44 (by kernel_rfl) (eqf_1 (by decide) ag9 rfl rfl (eqv_str Tryz.underlying9) (eqf_1 (by decide) ag5 rfl rfl (eqv_int Tryz.underlying5) (eqf_1 (by decide) ag9 rfl rfl (eqv_str Tryz.underlying9) eqf_nil)))) (by obtain ⟨a0, a1, a2⟩ := p; obtain ⟨b0, b1, b2⟩ := q; rw [Bool.eq_iff_iff]; simp)
theorem veq46 (p q : QueueR) : ∀ (H : Hp) (vs us : List Value), Sims H (QueueR.pc p) vs → Sims H (QueueR.pc q) us → EqV Tryz.prog 10000 46 (.agg vs.toArray) (.agg us.toArray) (decide (p = q)) := by
  intro H vs us hv hu
  obtain ⟨_, _, rfl, v0, v_0⟩ := hv.inv_cons
  obtain ⟨_, _, rfl, v1, v_1⟩ := v_0.inv_cons
  obtain ⟨_, _, rfl, v2, v_2⟩ := v_1.inv_cons
  obtain ⟨_, _, rfl, v3, v_3⟩ := v_2.inv_cons
  cases v_3.inv_nil
  cases v0.inv_str.1; cases v1.inv_int.1; cases v2.inv_int.1; cases v3.inv_str.1
  obtain ⟨_, _, rfl, u0, u_0⟩ := hu.inv_cons
  obtain ⟨_, _, rfl, u1, u_1⟩ := u_0.inv_cons
  obtain ⟨_, _, rfl, u2, u_2⟩ := u_1.inv_cons
  obtain ⟨_, _, rfl, u3, u_3⟩ := u_2.inv_cons
  cases u_3.inv_nil
  cases u0.inv_str.1; cases u1.inv_int.1; cases u2.inv_int.1; cases u3.inv_str.1
  exact EqV.to (eqv_agg Tryz.underlying46 (by kernel_rfl) (eqf_1 (by decide) ag9 rfl rfl (eqv_str Tryz.underlying9) (eqf_1 (by decide) ag27 rfl rfl (eqv_int Tryz.underlying27) (eqf_1 (by decide) ag27 rfl rfl (eqv_int Tryz.underlying27) (eqf_1 (by decide) ag9 rfl rfl (eqv_str Tryz.underlying9) eqf_nil))))) (by obtain ⟨a0, a1, a2, a3⟩ := p; obtain ⟨b0, b1, b2, b3⟩ := q; rw [Bool.eq_iff_iff]; simp)
def tbv14 : Tb := [(5, ⟨.int .u8, 1, 1, [.int .u8 0]⟩),
  (9, ⟨.str, 1, 16, [.str []]⟩),
  (27, ⟨.int .u64, 1, 8, [.int .u64 0]⟩),
  (44, ⟨.agg [(0, 1), (1, 1), (2, 1)], 3, 40, [.str [], .int .u8 0, .str []]⟩),
  (46, ⟨.agg [(0, 1), (1, 1), (2, 1), (3, 1)], 4, 48, [.str [], .int .u64 0, .int .u64 0, .str []]⟩),
  (47, ⟨.slc 199, 1, 24, [.sl Pair.pc []]⟩),
  (49, ⟨.agg [(0, 1), (1, 1), (2, 1), (3, 1), (4, 1), (5, 1)], 6, 88, [.str [], .str [], .bool false, .str [], .sl Pair.pc [], .bool false]⟩),
  (51, ⟨.agg [(0, 1), (1, 1), (2, 1), (3, 1), (4, 1), (5, 1), (6, 1)], 7, 96, [.int .u64 0, .str [], .str [], .sl Pair.pc [], .str [], .int .u64 0, .int .u8 0]⟩),
  (53, ⟨.agg [(0, 1), (1, 1), (2, 3), (5, 4), (9, 6), (15, 1), (16, 1), (17, 1), (18, 1), (19, 1), (20, 1), (21, 7), (28, 1)], 29, 344, [.int .u8 0, .int .u64 0, .str [], .int .u8 0, .str [], .str [], .int .u64 0, .int .u64 0, .str [], .str [], .str [], .bool false, .str [], .sl Pair.pc [], .bool false, .str [], .int .u64 0, .int .u8 0, .int .u8 0, .int .u8 0, .int .u64 0, .int .u64 0, .str [], .str [], .sl Pair.pc [], .str [], .int .u64 0, .int .u8 0, .str []]⟩),
  (285, ⟨.agg [(0, 1), (1, 1)], 2, 24, [.str [], .int .i64 0]⟩)]
theorem tv14 : tbB Tryz.prog tbv14 = true := by kernel_rfl
theorem mail_Check (m : Mail) : Fn Tryz.prog gb 220 [.agg (Mail.pc m)] (.int .i64 (mailC m)) := by
  refine fn_cw tv14 Tryz.func220 rfl Tryz.ntmps220 rfl cb220 rfl rfl fun w N H hG => ?_
  have m_head_l : m.head.length ≤ 140737488355328 := w.1.2.2.2.1.1
  refine go tv14 2 rfl rfl trivial ?_
  refine ef (boxA 0 rfl rfl rfl fun b1 => ?_)
  refine go tv14 8 rfl rfl trivial ?_
  refine call (words_Name _) rfl rfl fun w2 => ?_
  refine go tv14 9 rfl rfl trivial ?_
  refine cnd rfl (fun h3 => ?_) (fun h3 => ?_)
  · have h4 := not_t h3
    have p5 := df h4
    refine go tv14 8 rfl rfl trivial ?_
    refine rt1 rfl rfl ?_
    refine ple ?_
    refine congrArg (PV.int .i64) ?_
    simp only [Bool.or_eq_true, Bool.and_eq_true, Bool.not_eq_true', decide_eq_true_eq, Bool.or_eq_false_iff, Bool.and_eq_false_iff, Bool.not_eq_false', decide_eq_false_iff_not, beq_iff_eq, beq_eq_false_iff_ne] at *
    unfold mailC
    (repeat' split) <;> first | rfl | (exfalso; omega) | (exfalso; simp_all; done) | (exfalso; simp_all; omega) | grind
  have h6 := not_f h3
  have p7 := dt h6
  refine go tv14 7 rfl rfl trivial ?_
  refine call (words_Key _) rfl rfl fun w8 => ?_
  refine go tv14 9 rfl rfl trivial ?_
  refine cnd rfl (fun h9 => ?_) (fun h9 => ?_)
  · have h10 := not_t h9
    have p11 := df h10
    refine go tv14 8 rfl rfl trivial ?_
    refine rt1 rfl rfl ?_
    refine ple ?_
    refine congrArg (PV.int .i64) ?_
    simp only [Bool.or_eq_true, Bool.and_eq_true, Bool.not_eq_true', decide_eq_true_eq, Bool.or_eq_false_iff, Bool.and_eq_false_iff, Bool.not_eq_false', decide_eq_false_iff_not, beq_iff_eq, beq_eq_false_iff_ne] at *
    unfold mailC
    (repeat' split) <;> first | rfl | (exfalso; omega) | (exfalso; simp_all; done) | (exfalso; simp_all; omega) | grind
  have h12 := not_f h9
  have p13 := dt h12
  refine go tv14 7 rfl rfl trivial ?_
  refine call (head_Check _) rfl rfl fun w14 => ?_
  refine go tv14 11 rfl rfl trivial ?_
  refine cnd rfl (fun h15 => ?_) (fun h15 => ?_)
  · have h16 := not_t h15
    have p17 := df h16
    refine go tv14 9 rfl rfl trivial ?_
    refine rt1 rfl rfl ?_
    refine ple ?_
    refine congrArg (PV.int .i64) ?_
    simp only [Bool.or_eq_true, Bool.and_eq_true, Bool.not_eq_true', decide_eq_true_eq, Bool.or_eq_false_iff, Bool.and_eq_false_iff, Bool.not_eq_false', decide_eq_false_iff_not, beq_iff_eq, beq_eq_false_iff_ne] at *
    unfold mailC
    (repeat' split) <;> first | rfl | (exfalso; omega) | (exfalso; simp_all; done) | (exfalso; simp_all; omega) | grind
  have h18 := not_f h15
  have p19 := dt h18
  refine go tv14 9 rfl rfl trivial ?_
  refine cnd rfl (fun h20 => ?_) (fun h20 => ?_)
  · have p21 := dt h20
    refine go tv14 8 rfl rfl trivial ?_
    refine rt1 rfl rfl ?_
    refine ple ?_
    refine congrArg (PV.int .i64) ?_
    simp only [Bool.or_eq_true, Bool.and_eq_true, Bool.not_eq_true', decide_eq_true_eq, Bool.or_eq_false_iff, Bool.and_eq_false_iff, Bool.not_eq_false', decide_eq_false_iff_not, beq_iff_eq, beq_eq_false_iff_ne] at *
    unfold mailC
    (repeat' split) <;> first | rfl | (exfalso; omega) | (exfalso; simp_all; done) | (exfalso; simp_all; omega) | grind
  have p22 := df h20
  refine go tv14 8 rfl rfl trivial ?_
  refine cnd rfl (fun h23 => ?_) (fun h23 => ?_)
  · have p24 := dt h23
    refine go tv14 8 rfl rfl trivial ?_
    refine rt1 rfl rfl ?_
    refine ple ?_
    refine congrArg (PV.int .i64) ?_
    simp only [Bool.or_eq_true, Bool.and_eq_true, Bool.not_eq_true', decide_eq_true_eq, Bool.or_eq_false_iff, Bool.and_eq_false_iff, Bool.not_eq_false', decide_eq_false_iff_not, beq_iff_eq, beq_eq_false_iff_ne] at *
    unfold mailC
    (repeat' split) <;> first | rfl | (exfalso; omega) | (exfalso; simp_all; done) | (exfalso; simp_all; omega) | grind
  have p25 := df h23
  refine go tv14 9 rfl rfl trivial ?_
  refine rt1 rfl rfl ?_
  refine ple ?_
  refine congrArg (PV.int .i64) ?_
  simp only [Bool.or_eq_true, Bool.and_eq_true, Bool.not_eq_true', decide_eq_true_eq, Bool.or_eq_false_iff, Bool.and_eq_false_iff, Bool.not_eq_false', decide_eq_false_iff_not, beq_iff_eq, beq_eq_false_iff_ne] at *
  unfold mailC
  (repeat' split) <;> first | rfl | (exfalso; omega) | (exfalso; simp_all; done) | (exfalso; simp_all; omega) | grind
theorem mail_Bytes (m : Mail) : Fn Tryz.prog gb 238 [.agg (Mail.pc m)] (.tup [.str (mailBytes m), .int .i64 (mailC m)]) := by
  refine fn_cw tv14 Tryz.func238 rfl Tryz.ntmps238 rfl cb238 rfl rfl fun w N H hG => ?_
  have m_w := Mail.pwf w.1
  have m_w' := m_w
  simp only [Mail.wf] at m_w'
  have m_head_k := Mail.kd3 w.1
  have m_head_k2 : m.head.length ≤ 140737488355328 := w.1.2.2.2.1.1
  refine go tv14 2 rfl rfl trivial ?_
  refine ef (boxA 0 rfl rfl rfl fun b1 => ?_)
  refine go tv14 8 rfl rfl trivial ?_
  refine call (mail_Check _) rfl rfl fun w2 => ?_
  have := mailC_r m
  have hmo2 := fun h => mailC_ok (m := m) h
  refine go tv14 9 rfl rfl trivial ?_
  refine cnd rfl (fun h3 => ?_) (fun h3 => ?_)
  · have h4 := not_t h3
    have p5 := df h4
    refine go tv14 9 rfl rfl trivial ?_
    refine rt2 rfl rfl ?_
    refine ple ?_
    simp [mailBytes, mailOut, *]
  have h6 := not_f h3
  have p7 := dt h6
  refine go tv14 6 rfl rfl trivial ?_
  refine call (head_Bytes _) rfl rfl fun w8 => ?_
  have := headBytes_len m.head
  refine go tv14 8 rfl rfl trivial ?_
  refine any [1, 2, 3, 4, 5, 6] 17 mixd rfl ?_
  refine gov tv14 [0, 1, 2] 14 rfl (by kernel_rfl) rfl rfl trivial ?_
  refine vcall 3 rfl (by kernel_rfl) (out_Num (⟨[], 0⟩ : Out) _ _ (by first | omega | (have := hrl (by assumption); omega) | (simp [outNum, outRaw, numB_len, numK] <;> omega) | (have := hrl (by assumption); simp [outNum, outRaw, numB_len, numK] <;> omega))) rfl rfl fun w9 => ?_
  have nl0 : (⟨[], 0⟩ : Out).s.length = 0 := rfl
  have := outNum_len (⟨[], 0⟩ : Out) m.id 8
  refine gov tv14 [4, 5] 11 rfl (by kernel_rfl) rfl rfl trivial ?_
  refine vcall 6 rfl (by kernel_rfl) (out_Text _ _ (by first | omega | (have := hrl (by assumption); omega) | (simp [outNum, outRaw, numB_len, numK] <;> omega) | (have := hrl (by assumption); simp [outNum, outRaw, numB_len, numK] <;> omega))) rfl rfl fun w10 => ?_
  have := outText_len (outNum (⟨[], 0⟩ : Out) m.id 8) m.shop
  refine gov tv14 [7, 8] 8 rfl (by kernel_rfl) rfl rfl trivial ?_
  refine vcall 9 rfl (by kernel_rfl) (out_Text _ _ (by first | omega | (have := hrl (by assumption); omega) | (simp [outNum, outRaw, numB_len, numK] <;> omega) | (have := hrl (by assumption); simp [outNum, outRaw, numB_len, numK] <;> omega))) rfl rfl fun w11 => ?_
  have := outText_len (outText (outNum (⟨[], 0⟩ : Out) m.id 8) m.shop) m.key
  refine gov tv14 [10] 6 rfl (by kernel_rfl) rfl rfl trivial ?_
  refine vcall 11 rfl (by kernel_rfl) (out_Raw _ _ (by first | omega | (have := hrl (by assumption); omega) | (simp [outNum, outRaw, numB_len, numK] <;> omega) | (have := hrl (by assumption); simp [outNum, outRaw, numB_len, numK] <;> omega))) rfl rfl fun w12 => ?_
  have := outRaw_len (outText (outText (outNum (⟨[], 0⟩ : Out) m.id 8) m.shop) m.key) (headBytes m.head)
  refine gov tv14 [12, 13] 3 rfl (by kernel_rfl) rfl rfl trivial ?_
  refine vcall 14 rfl (by kernel_rfl) (out_Text _ _ (by first | omega | (have := hrl (by assumption); omega) | (simp [outNum, outRaw, numB_len, numK] <;> omega) | (have := hrl (by assumption); simp [outNum, outRaw, numB_len, numK] <;> omega))) rfl rfl fun w13 => ?_
  have := outText_len (outRaw (outText (outText (outNum (⟨[], 0⟩ : Out) m.id 8) m.shop) m.key) (headBytes m.head)) m.body
  refine ve 15 rfl (by kernel_rfl) rfl (alloc tv14 1 rfl rfl rfl rfl fun b14 => ?_)
  refine vt 16 rfl (by kernel_rfl) (by kernel_rfl) (storeA tv14 rfl rfl rfl rfl rfl rfl rfl rfl rfl rfl ?_)
  refine vdone (by kernel_rfl) ?_
  refine go tv14 2 rfl rfl trivial ?_
  refine any [2, 3, 4, 5, 6, 7] 11 mixd rfl ?_
  refine gov tv14 [0, 1, 2] 8 rfl (by kernel_rfl) rfl rfl trivial ?_
  refine vcall 3 rfl (by kernel_rfl) (out_Num _ _ _ (by first | omega | (have := hrl (by assumption); omega) | (simp [outNum, outRaw, numB_len, numK] <;> omega) | (have := hrl (by assumption); simp [outNum, outRaw, numB_len, numK] <;> omega))) rfl rfl fun w15 => ?_
  have := outNum_len (outText (outRaw (outText (outText (outNum (⟨[], 0⟩ : Out) m.id 8) m.shop) m.key) (headBytes m.head)) m.body) m.due 8
  refine gov tv14 [4, 5, 6] 4 rfl (by kernel_rfl) rfl rfl trivial ?_
  refine vcall 7 rfl (by kernel_rfl) (out_Num _ _ _ (by first | omega | (have := hrl (by assumption); omega) | (simp [outNum, outRaw, numB_len, numK] <;> omega) | (have := hrl (by assumption); simp [outNum, outRaw, numB_len, numK] <;> omega))) rfl rfl fun w16 => ?_
  have := outNum_len (outNum (outText (outRaw (outText (outText (outNum (⟨[], 0⟩ : Out) m.id 8) m.shop) m.key) (headBytes m.head)) m.body) m.due 8) m.hops 1
  refine vcall 8 rfl (by kernel_rfl) (out_String _) rfl rfl fun w17 => ?_
  refine gov tv14 [9, 10] 0 rfl (by kernel_rfl) rfl rfl trivial ?_
  refine vdone (by kernel_rfl) ?_
  refine go tv14 2 rfl rfl trivial ?_
  refine rt2 rfl rfl ?_
  refine ple ?_
  simp [mailBytes, mailOut, *]
theorem draft_Life (tick : Int) (life : Int) : Fn Tryz.prog gb 111 [.int .u64 tick, .int .u64 life] (.int .u64 (lifeN tick life)) := by
  refine fn_cw tv14 Tryz.func111 rfl Tryz.ntmps111 rfl cb111 rfl rfl fun w N H hG => ?_
  have tick_r : 0 ≤ tick ∧ tick ≤ 18446744073709551615 := w.1
  have life_r : 0 ≤ life ∧ life ≤ 18446744073709551615 := w.2.1
  refine go tv14 13 rfl rfl trivial ?_
  refine q1g [9] rfl (fun hc => qsub rfl rfl (rg_u64 (by omega))) ⟨(fun hc => hc), trivial⟩ rfl rfl rfl fun _ => ?_
  refine go tv14 4 rfl rfl ⟨(fun hc => hc), (fun hc => hc), rfl, rfl, trivial⟩ ?_
  refine cnd rfl (fun h1 => ?_) (fun h1 => ?_)
  · refine go tv14 7 rfl rfl trivial ?_
    refine rt1 rfl rfl ?_
    refine ple ?_
    refine congrArg (PV.int .u64) ?_
    simp only [Bool.or_eq_true, Bool.and_eq_true, Bool.not_eq_true', decide_eq_true_eq, Bool.or_eq_false_iff, Bool.and_eq_false_iff, Bool.not_eq_false', decide_eq_false_iff_not, beq_iff_eq, beq_eq_false_iff_ne] at *
    unfold lifeN
    (repeat' split) <;> first | rfl | (exfalso; omega) | (exfalso; simp_all; done) | (exfalso; simp_all; omega) | grind
  have h2 := orl h1
  have p3 := df h2
  have h4 := orr h1
  have p5 := df h4
  refine go tv14 6 rfl rfl trivial ?_
  refine q1 (qadd rfl rfl (rg_u64 (by omega))) rfl fun w6 => ?_
  refine go tv14 4 rfl rfl trivial ?_
  refine rt1 rfl rfl ?_
  refine ple ?_
  refine congrArg (PV.int .u64) ?_
  simp only [Bool.or_eq_true, Bool.and_eq_true, Bool.not_eq_true', decide_eq_true_eq, Bool.or_eq_false_iff, Bool.and_eq_false_iff, Bool.not_eq_false', decide_eq_false_iff_not, beq_iff_eq, beq_eq_false_iff_ne] at *
  unfold lifeN
  (repeat' split) <;> first | rfl | (exfalso; omega) | (exfalso; simp_all; done) | (exfalso; simp_all; omega) | grind
theorem deed_maybe (s : Bs) : Fn Tryz.prog gb 219 [.str s] (.int .i64 (maybeE s)) := by
  refine fn_cw tv14 Tryz.func219 rfl Tryz.ntmps219 rfl cb219 rfl rfl fun w N H hG => ?_
  have s_l : s.length ≤ 9223372036854775807 := w.1
  refine go tv14 12 rfl rfl trivial ?_
  refine cnd rfl (fun h1 => ?_) (fun h1 => ?_)
  · have p2 := dt h1
    refine go tv14 7 rfl rfl trivial ?_
    refine rt1 rfl rfl ?_
    refine ple ?_
    simp [maybeE, *]
  have p3 := df h1
  refine go tv14 5 rfl rfl trivial ?_
  refine call (words_Name _) rfl rfl fun w4 => ?_
  refine go tv14 4 rfl rfl trivial ?_
  refine rt1 rfl rfl ?_
  refine ple ?_
  simp [maybeE, *]
theorem deed_bound (b : Bool) (e : Int) : Fn Tryz.prog gb 218 [.bool b, .int .i64 e] (.int .i64 (boundE b e)) := by
  refine fn_cw tv14 Tryz.func218 rfl Tryz.ntmps218 rfl cb218 rfl rfl fun w N H hG => ?_
  have e_r : -9223372036854775808 ≤ e ∧ e ≤ 9223372036854775807 := w.2.1
  refine go tv14 11 rfl rfl trivial ?_
  refine cnd rfl (fun h1 => ?_) (fun h1 => ?_)
  · refine go tv14 8 rfl rfl trivial ?_
    refine rt1 rfl rfl ?_
    refine ple ?_
    simp [boundE, *]
  refine go tv14 8 rfl rfl trivial ?_
  refine rt1 rfl rfl ?_
  refine ple ?_
  simp [boundE, *]
theorem mail_Same (a : Mail) (b : Mail) : Fn Tryz.prog gb 243 [.agg (Mail.pc a), .agg (Mail.pc b)] (.bool (decide (a = b))) := by
  refine fn_cw tv14 Tryz.func243 rfl Tryz.ntmps243 rfl cb243 rfl rfl fun w N H hG => ?_
  have a_head_l : a.head.length ≤ 140737488355328 := w.1.2.2.2.1.1
  have b_head_l : b.head.length ≤ 140737488355328 := w.2.1.2.2.2.1.1
  refine go tv14 2 rfl rfl trivial ?_
  refine ef (boxA 0 rfl rfl rfl fun b1 => ?_)
  refine ef (boxA 1 rfl rfl rfl fun b2 => ?_)
  refine go tv14 29 rfl rfl ⟨(fun hc => hc), (fun hc => hc), (fun hc => hc), (fun hc => hc), rfl, rfl, (fun hc => hc), (fun hc => hc), (fun hc => hc), (fun hc => hc), rfl, rfl, (fun hc => hc), (fun hc => hc), trivial⟩ ?_
  refine callg rfl (fun hc => (head_Same _ _)) rfl ⟨(fun hc => hc), (fun hc => hc), trivial⟩ rfl rfl fun _ => ?_
  refine go tv14 26 rfl rfl ⟨rfl, rfl, (fun hc => hc), (fun hc => hc), (fun hc => hc), (fun hc => hc), rfl, rfl, (fun hc => hc), (fun hc => hc), (fun hc => hc), (fun hc => hc), rfl, rfl, (fun hc => hc), (fun hc => hc), (fun hc => hc), (fun hc => hc), rfl, rfl, trivial⟩ ?_
  refine rt1 rfl rfl ?_
  refine ple ?_
  exact congrArg PV.bool (by rw [Bool.eq_iff_iff]; first | (simp [Mail.eq_iff, and_assoc]; done) | (simp [Mail.eq_iff]; grind))
theorem deed_Same (a : DeedR) (b : DeedR) : Fn Tryz.prog gb 215 [.agg (DeedR.pc a), .agg (DeedR.pc b)] (.bool (decide (a = b))) := by
  refine fn_cw tv14 Tryz.func215 rfl Tryz.ntmps215 rfl cb215 rfl rfl fun w N H hG => ?_
  have a_bind_want_l : a.bind.want.length ≤ 140737488355328 := w.1.2.2.2.2.2.2.2.2.2.2.2.2.2.1.1
  have a_mail_head_l : a.mail.head.length ≤ 140737488355328 := w.1.2.2.2.2.2.2.2.2.2.2.2.2.2.2.2.2.2.2.2.2.2.2.2.2.1.1
  have b_bind_want_l : b.bind.want.length ≤ 140737488355328 := w.2.1.2.2.2.2.2.2.2.2.2.2.2.2.2.1.1
  have b_mail_head_l : b.mail.head.length ≤ 140737488355328 := w.2.1.2.2.2.2.2.2.2.2.2.2.2.2.2.2.2.2.2.2.2.2.2.2.2.2.1.1
  refine go tv14 2 rfl rfl trivial ?_
  refine ef (boxA 0 rfl rfl rfl fun b1 => ?_)
  refine ef (boxA 1 rfl rfl rfl fun b2 => ?_)
  refine go tv14 22 rfl rfl ⟨(fun hc => hc), (fun hc => hc), (fun hc => hc), (fun hc => hc), rfl, rfl, (fun hc => hc), (fun hc => hc), trivial⟩ ?_
  refine q1g [19, 21] rfl (fun hc => saeq rfl rfl eqg44 (veq44 a.shop b.shop)) ⟨(fun hc => hc), (fun hc => hc), trivial⟩ rfl rfl rfl fun _ => ?_
  refine go tv14 6 rfl rfl ⟨rfl, rfl, (fun hc => hc), (fun hc => hc), trivial⟩ ?_
  refine q1g [26, 28] rfl (fun hc => saeq rfl rfl eqg46 (veq46 a.queue b.queue)) ⟨(fun hc => hc), (fun hc => hc), trivial⟩ rfl rfl rfl fun _ => ?_
  refine go tv14 6 rfl rfl ⟨rfl, rfl, (fun hc => hc), (fun hc => hc), trivial⟩ ?_
  refine callg rfl (fun hc => (deed_sameBind _ _)) rfl ⟨(fun hc => hc), (fun hc => hc), trivial⟩ rfl rfl fun _ => ?_
  refine go tv14 48 rfl rfl ⟨rfl, rfl, (fun hc => hc), (fun hc => hc), (fun hc => hc), (fun hc => hc), rfl, rfl, (fun hc => hc), (fun hc => hc), (fun hc => hc), (fun hc => hc), rfl, rfl, (fun hc => hc), (fun hc => hc), (fun hc => hc), (fun hc => hc), rfl, rfl, (fun hc => hc), (fun hc => hc), (fun hc => hc), (fun hc => hc), rfl, rfl, (fun hc => hc), (fun hc => hc), (fun hc => hc), (fun hc => hc), rfl, rfl, (fun hc => hc), (fun hc => hc), (fun hc => hc), (fun hc => hc), rfl, rfl, (fun hc => hc), (fun hc => hc), trivial⟩ ?_
  refine callg rfl (fun hc => (mail_Same _ _)) rfl ⟨(fun hc => hc), (fun hc => hc), trivial⟩ rfl rfl fun _ => ?_
  refine go tv14 12 rfl rfl ⟨rfl, rfl, (fun hc => hc), (fun hc => hc), (fun hc => hc), (fun hc => hc), rfl, rfl, trivial⟩ ?_
  refine rt1 rfl rfl ?_
  refine ple ?_
  exact congrArg PV.bool (by rw [Bool.eq_iff_iff]; first | (simp [DeedR.eq_iff, and_assoc]; done) | (simp [DeedR.eq_iff]; grind))
end Go.SW.V
set_option linter.unusedVariables false
set_option maxRecDepth 100000
set_option maxHeartbeats 4000000
namespace Go.SW.V
open Go.SW Go.Proofs
theorem cb175 : Callable Tryz.prog 175 := callable_of Tryz.func175 (by kernel_rfl) (by kernel_rfl)
theorem cb216 : Callable Tryz.prog 216 := callable_of Tryz.func216 (by kernel_rfl) (by kernel_rfl)
theorem cb217 : Callable Tryz.prog 217 := callable_of Tryz.func217 (by kernel_rfl) (by kernel_rfl)
def tbv15 : Tb := [(5, ⟨.int .u8, 1, 1, [.int .u8 0]⟩),
  (9, ⟨.str, 1, 16, [.str []]⟩),
  (27, ⟨.int .u64, 1, 8, [.int .u64 0]⟩),
  (40, ⟨.int .i64, 1, 8, [.int .i64 0]⟩),
  (44, ⟨.agg [(0, 1), (1, 1), (2, 1)], 3, 40, [.str [], .int .u8 0, .str []]⟩),
  (46, ⟨.agg [(0, 1), (1, 1), (2, 1), (3, 1)], 4, 48, [.str [], .int .u64 0, .int .u64 0, .str []]⟩),
  (47, ⟨.slc 199, 1, 24, [.sl Pair.pc []]⟩),
  (49, ⟨.agg [(0, 1), (1, 1), (2, 1), (3, 1), (4, 1), (5, 1)], 6, 88, [.str [], .str [], .bool false, .str [], .sl Pair.pc [], .bool false]⟩),
  (51, ⟨.agg [(0, 1), (1, 1), (2, 1), (3, 1), (4, 1), (5, 1), (6, 1)], 7, 96, [.int .u64 0, .str [], .str [], .sl Pair.pc [], .str [], .int .u64 0, .int .u8 0]⟩),
  (53, ⟨.agg [(0, 1), (1, 1), (2, 3), (5, 4), (9, 6), (15, 1), (16, 1), (17, 1), (18, 1), (19, 1), (20, 1), (21, 7), (28, 1)], 29, 344, [.int .u8 0, .int .u64 0, .str [], .int .u8 0, .str [], .str [], .int .u64 0, .int .u64 0, .str [], .str [], .str [], .bool false, .str [], .sl Pair.pc [], .bool false, .str [], .int .u64 0, .int .u8 0, .int .u8 0, .int .u8 0, .int .u64 0, .int .u64 0, .str [], .str [], .sl Pair.pc [], .str [], .int .u64 0, .int .u8 0, .str []]⟩),
  (334, ⟨.slc 40, 1, 24, [.sl i64c []]⟩)]
theorem tv15 : tbB Tryz.prog tbv15 = true := by kernel_rfl
theorem deed_told (d : DeedR) : Fn Tryz.prog gb 216 [.agg (DeedR.pc d)] (.agg (DeedR.pc (toldD d))) := by
  refine fn_cw tv15 Tryz.func216 rfl Tryz.ntmps216 rfl cb216 rfl rfl fun w N H hG => ?_
  have d_bind_want_l : d.bind.want.length ≤ 140737488355328 := w.1.2.2.2.2.2.2.2.2.2.2.2.2.2.1.1
  have d_mail_head_l : d.mail.head.length ≤ 140737488355328 := w.1.2.2.2.2.2.2.2.2.2.2.2.2.2.2.2.2.2.2.2.2.2.2.2.2.1.1
  refine go tv15 2 rfl rfl trivial ?_
  refine ef (boxA 0 rfl rfl rfl fun b1 => ?_)
  refine ef (alloc tv15 1 rfl rfl rfl rfl fun b2 => ?_)
  refine go tv15 9 rfl rfl trivial ?_
  refine ef (alloc tv15 2 rfl rfl rfl rfl fun b3 => ?_)
  refine ef (storeA tv15 rfl rfl rfl rfl rfl rfl rfl rfl rfl rfl ?_)
  refine go tv15 16 rfl rfl trivial ?_
  refine cnd rfl (fun h4 => ?_) (fun h4 => ?_)
  · have p5 := dt h4
    refine go tv15 4 rfl rfl trivial ?_
    refine ef (storeA tv15 rfl rfl rfl rfl rfl rfl rfl rfl rfl rfl ?_)
    refine go tv15 6 rfl rfl trivial ?_
    refine ef (storeA tv15 rfl rfl rfl rfl rfl rfl rfl rfl rfl rfl ?_)
    refine go tv15 3 rfl rfl trivial ?_
    refine rt1 rfl rfl ?_
    refine ple ?_
    have e : toldD d = (⟨d.kind, d.tick, d.shop, (⟨[], 0, 0, []⟩ : QueueR), (⟨[], [], false, [], [], false⟩ : BindR), [], 0, 0, 0, 0, 0, (⟨0, [], [], [], [], 0, 0⟩ : Mail), []⟩ : DeedR) := by
      unfold toldD
      repeat (first | rw [if_pos (by omega)] | rw [if_neg (by omega)])
      rfl
    rw [e]; rfl
  have p6 := df h4
  refine go tv15 6 rfl rfl trivial ?_
  refine cnd rfl (fun h7 => ?_) (fun h7 => ?_)
  · have p8 := dt h7
    refine go tv15 4 rfl rfl trivial ?_
    refine ef (storeA tv15 rfl rfl rfl rfl rfl rfl rfl rfl rfl rfl ?_)
    refine go tv15 6 rfl rfl trivial ?_
    refine ef (storeA tv15 rfl rfl rfl rfl rfl rfl rfl rfl rfl rfl ?_)
    refine go tv15 3 rfl rfl trivial ?_
    refine rt1 rfl rfl ?_
    refine ple ?_
    have e : toldD d = (⟨d.kind, d.tick, (⟨[], 0, []⟩ : ShopR), d.queue, (⟨[], [], false, [], [], false⟩ : BindR), [], 0, 0, 0, 0, 0, (⟨0, [], [], [], [], 0, 0⟩ : Mail), []⟩ : DeedR) := by
      unfold toldD
      repeat (first | rw [if_pos (by omega)] | rw [if_neg (by omega)])
      rfl
    rw [e]; rfl
  have p9 := df h7
  refine go tv15 7 rfl rfl trivial ?_
  refine cnd rfl (fun h10 => ?_) (fun h10 => ?_)
  · have p11 := dt h10
    refine go tv15 2 rfl rfl trivial ?_
    refine cndT rfl h10 ?_
    refine go tv15 4 rfl rfl trivial ?_
    refine ef (storeA tv15 rfl rfl rfl rfl rfl rfl rfl rfl rfl rfl ?_)
    refine go tv15 6 rfl rfl trivial ?_
    refine ef (storeA tv15 rfl rfl rfl rfl rfl rfl rfl rfl rfl rfl ?_)
    refine go tv15 3 rfl rfl trivial ?_
    refine rt1 rfl rfl ?_
    refine ple ?_
    have e : toldD d = (⟨d.kind, d.tick, (⟨[], 0, []⟩ : ShopR), (⟨[], 0, 0, []⟩ : QueueR), d.bind, [], 0, 0, 0, 0, 0, (⟨0, [], [], [], [], 0, 0⟩ : Mail), []⟩ : DeedR) := by
      unfold toldD
      repeat (first | rw [if_pos (by omega)] | rw [if_neg (by omega)])
      rfl
    rw [e]; rfl
  have p12 := df h10
  refine go tv15 5 rfl rfl trivial ?_
  refine cnd rfl (fun h13 => ?_) (fun h13 => ?_)
  · have p14 := dt h13
    refine go tv15 4 rfl rfl trivial ?_
    refine ef (storeA tv15 rfl rfl rfl rfl rfl rfl rfl rfl rfl rfl ?_)
    refine go tv15 6 rfl rfl trivial ?_
    refine ef (storeA tv15 rfl rfl rfl rfl rfl rfl rfl rfl rfl rfl ?_)
    refine go tv15 3 rfl rfl trivial ?_
    refine rt1 rfl rfl ?_
    refine ple ?_
    have e : toldD d = (⟨d.kind, d.tick, (⟨[], 0, []⟩ : ShopR), (⟨[], 0, 0, []⟩ : QueueR), d.bind, [], 0, 0, 0, 0, 0, (⟨0, [], [], [], [], 0, 0⟩ : Mail), []⟩ : DeedR) := by
      unfold toldD
      repeat (first | rw [if_pos (by omega)] | rw [if_neg (by omega)])
      rfl
    rw [e]; rfl
  have p15 := df h13
  refine go tv15 6 rfl rfl trivial ?_
  refine cnd rfl (fun h16 => ?_) (fun h16 => ?_)
  · have p17 := dt h16
    refine go tv15 4 rfl rfl trivial ?_
    refine ef (storeA tv15 rfl rfl rfl rfl rfl rfl rfl rfl rfl rfl ?_)
    refine go tv15 6 rfl rfl trivial ?_
    refine ef (storeA tv15 rfl rfl rfl rfl rfl rfl rfl rfl rfl rfl ?_)
    refine go tv15 3 rfl rfl trivial ?_
    refine rt1 rfl rfl ?_
    refine ple ?_
    have e : toldD d = (⟨d.kind, d.tick, (⟨[], 0, []⟩ : ShopR), (⟨[], 0, 0, []⟩ : QueueR), (⟨[], [], false, [], [], false⟩ : BindR), [], 0, 0, 0, 0, 0, d.mail, []⟩ : DeedR) := by
      unfold toldD
      repeat (first | rw [if_pos (by omega)] | rw [if_neg (by omega)])
      rfl
    rw [e]; rfl
  have p18 := df h16
  refine go tv15 7 rfl rfl trivial ?_
  refine cnd rfl (fun h19 => ?_) (fun h19 => ?_)
  · have p20 := dt h19
    refine go tv15 2 rfl rfl trivial ?_
    refine cndT rfl h19 ?_
    refine go tv15 4 rfl rfl trivial ?_
    refine ef (store1 tv15 rfl rfl rfl rfl rfl rfl rfl rfl rfl ?_)
    refine go tv15 6 rfl rfl trivial ?_
    refine ef (storeA tv15 rfl rfl rfl rfl rfl rfl rfl rfl rfl rfl ?_)
    refine go tv15 3 rfl rfl trivial ?_
    refine rt1 rfl rfl ?_
    refine ple ?_
    have e : toldD d = (⟨d.kind, d.tick, (⟨[], 0, []⟩ : ShopR), (⟨[], 0, 0, []⟩ : QueueR), (⟨[], [], false, [], [], false⟩ : BindR), d.name, 0, 0, 0, 0, 0, (⟨0, [], [], [], [], 0, 0⟩ : Mail), []⟩ : DeedR) := by
      unfold toldD
      repeat (first | rw [if_pos (by omega)] | rw [if_neg (by omega)])
      rfl
    rw [e]; rfl
  have p21 := df h19
  refine go tv15 6 rfl rfl trivial ?_
  refine cnd rfl (fun h22 => ?_) (fun h22 => ?_)
  · have p23 := dt h22
    refine go tv15 2 rfl rfl trivial ?_
    refine cndT rfl h22 ?_
    refine go tv15 4 rfl rfl trivial ?_
    refine ef (store1 tv15 rfl rfl rfl rfl rfl rfl rfl rfl rfl ?_)
    refine go tv15 6 rfl rfl trivial ?_
    refine ef (storeA tv15 rfl rfl rfl rfl rfl rfl rfl rfl rfl rfl ?_)
    refine go tv15 3 rfl rfl trivial ?_
    refine rt1 rfl rfl ?_
    refine ple ?_
    have e : toldD d = (⟨d.kind, d.tick, (⟨[], 0, []⟩ : ShopR), (⟨[], 0, 0, []⟩ : QueueR), (⟨[], [], false, [], [], false⟩ : BindR), d.name, 0, 0, 0, 0, 0, (⟨0, [], [], [], [], 0, 0⟩ : Mail), []⟩ : DeedR) := by
      unfold toldD
      repeat (first | rw [if_pos (by omega)] | rw [if_neg (by omega)])
      rfl
    rw [e]; rfl
  have p24 := df h22
  refine go tv15 5 rfl rfl trivial ?_
  refine cnd rfl (fun h25 => ?_) (fun h25 => ?_)
  · have p26 := dt h25
    refine go tv15 4 rfl rfl trivial ?_
    refine ef (store1 tv15 rfl rfl rfl rfl rfl rfl rfl rfl rfl ?_)
    refine go tv15 6 rfl rfl trivial ?_
    refine ef (storeA tv15 rfl rfl rfl rfl rfl rfl rfl rfl rfl rfl ?_)
    refine go tv15 3 rfl rfl trivial ?_
    refine rt1 rfl rfl ?_
    refine ple ?_
    have e : toldD d = (⟨d.kind, d.tick, (⟨[], 0, []⟩ : ShopR), (⟨[], 0, 0, []⟩ : QueueR), (⟨[], [], false, [], [], false⟩ : BindR), d.name, 0, 0, 0, 0, 0, (⟨0, [], [], [], [], 0, 0⟩ : Mail), []⟩ : DeedR) := by
      unfold toldD
      repeat (first | rw [if_pos (by omega)] | rw [if_neg (by omega)])
      rfl
    rw [e]; rfl
  have p27 := df h25
  refine go tv15 6 rfl rfl trivial ?_
  refine cnd rfl (fun h28 => ?_) (fun h28 => ?_)
  · have p29 := dt h28
    refine any [2, 3, 4, 5, 6, 7, 8] 12 mixd rfl ?_
    refine gov tv15 [0, 1, 2, 3, 4, 5, 6] 5 rfl (by kernel_rfl) rfl rfl trivial ?_
    refine ve 7 rfl (by kernel_rfl) rfl (store1 tv15 rfl rfl rfl rfl rfl rfl rfl rfl rfl ?_)
    refine gov tv15 [8] 3 rfl (by kernel_rfl) rfl rfl trivial ?_
    refine ve 9 rfl (by kernel_rfl) rfl (store1 tv15 rfl rfl rfl rfl rfl rfl rfl rfl rfl ?_)
    refine gov tv15 [10] 1 rfl (by kernel_rfl) rfl rfl trivial ?_
    refine vt 11 rfl (by kernel_rfl) (by kernel_rfl) (store1 tv15 rfl rfl rfl rfl rfl rfl rfl rfl rfl ?_)
    refine vdone (by kernel_rfl) ?_
    refine go tv15 5 rfl rfl trivial ?_
    refine ef (storeA tv15 rfl rfl rfl rfl rfl rfl rfl rfl rfl rfl ?_)
    refine go tv15 3 rfl rfl trivial ?_
    refine rt1 rfl rfl ?_
    refine ple ?_
    have e : toldD d = (⟨d.kind, d.tick, (⟨[], 0, []⟩ : ShopR), (⟨[], 0, 0, []⟩ : QueueR), (⟨[], [], false, [], [], false⟩ : BindR), d.name, d.id, d.how, 0, 0, 0, (⟨0, [], [], [], [], 0, 0⟩ : Mail), []⟩ : DeedR) := by
      unfold toldD
      repeat (first | rw [if_pos (by omega)] | rw [if_neg (by omega)])
      rfl
    rw [e]; rfl
  have p30 := df h28
  refine go tv15 6 rfl rfl trivial ?_
  refine cnd rfl (fun h31 => ?_) (fun h31 => ?_)
  · have p32 := dt h31
    refine any [2, 3, 4, 5, 6, 7, 8] 12 mixd rfl ?_
    refine gov tv15 [0, 1, 2, 3, 4, 5, 6] 5 rfl (by kernel_rfl) rfl rfl trivial ?_
    refine ve 7 rfl (by kernel_rfl) rfl (store1 tv15 rfl rfl rfl rfl rfl rfl rfl rfl rfl ?_)
    refine gov tv15 [8] 3 rfl (by kernel_rfl) rfl rfl trivial ?_
    refine ve 9 rfl (by kernel_rfl) rfl (store1 tv15 rfl rfl rfl rfl rfl rfl rfl rfl rfl ?_)
    refine gov tv15 [10] 1 rfl (by kernel_rfl) rfl rfl trivial ?_
    refine vt 11 rfl (by kernel_rfl) (by kernel_rfl) (storeA tv15 rfl rfl rfl rfl rfl rfl rfl rfl rfl rfl ?_)
    refine vdone (by kernel_rfl) ?_
    refine go tv15 5 rfl rfl trivial ?_
    refine ef (storeA tv15 rfl rfl rfl rfl rfl rfl rfl rfl rfl rfl ?_)
    refine go tv15 3 rfl rfl trivial ?_
    refine rt1 rfl rfl ?_
    refine ple ?_
    have e : toldD d = (⟨d.kind, d.tick, (⟨[], 0, []⟩ : ShopR), (⟨[], 0, 0, []⟩ : QueueR), (⟨[], [], false, [], [], false⟩ : BindR), [], 0, 0, d.frm, 0, d.number, d.mail, []⟩ : DeedR) := by
      unfold toldD
      repeat (first | rw [if_pos (by omega)] | rw [if_neg (by omega)])
      rfl
    rw [e]; rfl
  have p33 := df h31
  refine go tv15 6 rfl rfl trivial ?_
  refine cnd rfl (fun h34 => ?_) (fun h34 => ?_)
  · have p35 := dt h34
    refine any [2, 3, 4, 5, 6, 7, 8] 8 mixd rfl ?_
    refine gov tv15 [0, 1, 2, 3, 4] 3 rfl (by kernel_rfl) rfl rfl trivial ?_
    refine ve 5 rfl (by kernel_rfl) rfl (store1 tv15 rfl rfl rfl rfl rfl rfl rfl rfl rfl ?_)
    refine gov tv15 [6] 1 rfl (by kernel_rfl) rfl rfl trivial ?_
    refine vt 7 rfl (by kernel_rfl) (by kernel_rfl) (store1 tv15 rfl rfl rfl rfl rfl rfl rfl rfl rfl ?_)
    refine vdone (by kernel_rfl) ?_
    refine go tv15 5 rfl rfl trivial ?_
    refine ef (storeA tv15 rfl rfl rfl rfl rfl rfl rfl rfl rfl rfl ?_)
    refine go tv15 3 rfl rfl trivial ?_
    refine rt1 rfl rfl ?_
    refine ple ?_
    have e : toldD d = (⟨d.kind, d.tick, (⟨[], 0, []⟩ : ShopR), (⟨[], 0, 0, []⟩ : QueueR), (⟨[], [], false, [], [], false⟩ : BindR), [], 0, 0, 0, d.code, 0, (⟨0, [], [], [], [], 0, 0⟩ : Mail), d.text⟩ : DeedR) := by
      unfold toldD
      repeat (first | rw [if_pos (by omega)] | rw [if_neg (by omega)])
      rfl
    rw [e]; rfl
  have p36 := df h34
  refine go tv15 6 rfl rfl trivial ?_
  refine ef (storeA tv15 rfl rfl rfl rfl rfl rfl rfl rfl rfl rfl ?_)
  refine go tv15 3 rfl rfl trivial ?_
  refine rt1 rfl rfl ?_
  refine ple ?_
  have e : toldD d = (⟨d.kind, d.tick, (⟨[], 0, []⟩ : ShopR), (⟨[], 0, 0, []⟩ : QueueR), (⟨[], [], false, [], [], false⟩ : BindR), [], 0, 0, 0, 0, 0, (⟨0, [], [], [], [], 0, 0⟩ : Mail), []⟩ : DeedR) := by
    unfold toldD
    repeat (first | rw [if_pos (by omega)] | rw [if_neg (by omega)])
    rfl
  rw [e]; rfl
theorem deed_first (l : List Int) : Fn Tryz.prog gb 217 [.sl i64c l] (.int .i64 (firstE l)) := by
  refine fn_cw tv15 Tryz.func217 rfl Tryz.ntmps217 rfl cb217 rfl rfl fun w N H hG => ?_
  have l_l : l.length ≤ 140737488355328 := w.1.1
  refine go tv15 14 rfl rfl trivial ?_
  refine loop (ι := Nat) [0, 5, 6] [] (fun k => [(7, .int .i64 (k : Int))]) (fun k => []) (fun k => k ≤ l.length ∧ firstE l = firstE (l.drop k)) (fun k => l.length - k) 0 ⟨rfl, trivial⟩ trivial ?_ ?_
  · exact ⟨Nat.zero_le _, rfl⟩
  rintro k hp1
  obtain ⟨hk1, hk2⟩ := hp1
  refine go tv15 6 rfl rfl trivial ?_
  refine cnd rfl (fun h2 => ?_) (fun h2 => ?_)
  · have p3 := dt h2
    obtain ⟨c4, hc5⟩ := getE (xs := l) (m := k) (by omega)
    refine go tv15 6 rfl rfl trivial ?_
    refine q1 (qidx tv15 k rfl rfl rfl hc5 rfl rfl rfl rfl) rfl fun w6 => ?_
    refine go tv15 10 rfl rfl trivial ?_
    refine cnd rfl (fun h7 => ?_) (fun h7 => ?_)
    · have h8 := not_t h7
      have p9 := df h8
      refine go tv15 12 rfl rfl trivial ?_
      refine rt1 rfl rfl ?_
      refine ple ?_
      refine congrArg (PV.int .i64) ?_
      rw [hk2, dropE hc5]
      unfold firstE
      rw [if_pos (by assumption)]
    have h10 := not_f h7
    have p11 := dt h10
    refine go tv15 7 rfl rfl ⟨(by omega), trivial⟩ ?_
    refine next (k + 1) rfl rfl ⟨rfl, trivial⟩ trivial ?_ ?_
    · omega
    refine ⟨by omega, ?_⟩
    rw [hk2, dropE hc5]
    conv => lhs; unfold firstE
    rw [if_neg (by omega)]
  have p12 := df h2
  refine go tv15 11 rfl rfl trivial ?_
  refine rt1 rfl rfl ?_
  refine ple ?_
  refine congrArg (PV.int .i64) ?_
  rw [hk2, List.drop_of_length_le (by omega)]
  rfl
theorem deed_Check (d : DeedR) : Fn Tryz.prog gb 175 [.agg (DeedR.pc d)] (.int .i64 (deedE d)) := by
  refine fn_cw tv15 Tryz.func175 rfl Tryz.ntmps175 rfl cb175 rfl rfl fun w N H hG => ?_
  have d_bind_want_l : d.bind.want.length ≤ 140737488355328 := w.1.2.2.2.2.2.2.2.2.2.2.2.2.2.1.1
  have d_mail_head_l : d.mail.head.length ≤ 140737488355328 := w.1.2.2.2.2.2.2.2.2.2.2.2.2.2.2.2.2.2.2.2.2.2.2.2.2.1.1
  refine go tv15 2 rfl rfl trivial ?_
  refine ef (boxA 0 rfl rfl rfl fun b1 => ?_)
  refine go tv15 13 rfl rfl trivial ?_
  refine cnd rfl (fun h2 => ?_) (fun h2 => ?_)
  · have p3 := dt h2
    refine go tv15 8 rfl rfl trivial ?_
    refine rt1 rfl rfl ?_
    refine ple ?_
    refine congrArg (PV.int .i64) ?_
    unfold deedE
    repeat (first | rw [if_pos (by omega)] | rw [if_neg (by omega)] | rw [if_pos (by assumption)] | rw [if_neg (not_not_intro (by assumption))])
    all_goals first | done | rfl
  have p4 := df h2
  refine go tv15 1 rfl rfl trivial ?_
  refine any [1, 2, 3, 4, 5, 6] 6 mixd rfl ?_
  refine gov tv15 [0, 1] 4 rfl (by kernel_rfl) rfl rfl trivial ?_
  refine ve 2 rfl (by kernel_rfl) rfl (ecall (deed_told _) rfl rfl fun w5 => ?_)
  refine vcall 3 rfl (by kernel_rfl) (deed_Same _ _) rfl rfl fun w6 => ?_
  refine gov tv15 [4, 5] 0 rfl (by kernel_rfl) rfl rfl trivial ?_
  refine vdone (by kernel_rfl) ?_
  refine go tv15 1 rfl rfl trivial ?_
  refine cnd rfl (fun h7 => ?_) (fun h7 => ?_)
  · have h8 := not_t h7
    have p9 := df h8
    refine go tv15 8 rfl rfl trivial ?_
    refine rt1 rfl rfl ?_
    refine ple ?_
    refine congrArg (PV.int .i64) ?_
    unfold deedE
    repeat (first | rw [if_pos (by omega)] | rw [if_neg (by omega)] | rw [if_pos (by assumption)] | rw [if_neg (not_not_intro (by assumption))])
    all_goals first | done | rfl
  have h10 := not_f h7
  have p11 := dt h10
  refine go tv15 17 rfl rfl trivial ?_
  refine cnd rfl (fun h12 => ?_) (fun h12 => ?_)
  · have p13 := dt h12
    refine go tv15 1 rfl rfl trivial ?_
    refine any [1, 2, 3, 4, 5, 6] 16 mixd rfl ?_
    refine gov tv15 [0, 1, 2] 13 rfl (by kernel_rfl) rfl rfl trivial ?_
    refine vcall 3 rfl (by kernel_rfl) (words_Name _) rfl rfl fun w14 => ?_
    refine gov tv15 [4, 5, 6, 7] 8 rfl (by kernel_rfl) rfl rfl trivial ?_
    refine vcall 8 rfl (by kernel_rfl) (deed_bound _ _) rfl rfl fun w15 => ?_
    refine gov tv15 [9, 10, 11] 4 rfl (by kernel_rfl) rfl rfl trivial ?_
    refine vcall 12 rfl (by kernel_rfl) (deed_maybe _) rfl rfl fun w16 => ?_
    have := maybeE_r d.shop.to
    refine ve 13 rfl (by kernel_rfl) rfl (bsl 1 i64c [nameE d.shop.name, boundE (decide (4 < d.shop.sort)) 8, maybeE d.shop.to] tv15 rfl rfl rfl rfl rfl (fun _ => rfl) rfl (by decide) (by decide) rfl fun u17 => ?_)
    refine ve 14 rfl (by kernel_rfl) rfl (calll 1 rfl (deed_first _) rfl rfl rfl fun w18 => ?_)
    refine gov tv15 [15] 0 rfl (by kernel_rfl) rfl rfl trivial ?_
    refine vdone (by kernel_rfl) ?_
    refine go tv15 4 rfl rfl trivial ?_
    refine rt1 rfl rfl ?_
    refine ple ?_
    refine congrArg (PV.int .i64) ?_
    unfold deedE
    repeat (first | rw [if_pos (by omega)] | rw [if_neg (by omega)] | rw [if_pos (by assumption)] | rw [if_neg (not_not_intro (by assumption))])
    all_goals first | done | rfl
  have p19 := df h12
  refine go tv15 6 rfl rfl trivial ?_
  refine cnd rfl (fun h20 => ?_) (fun h20 => ?_)
  · have p21 := dt h20
    refine go tv15 1 rfl rfl trivial ?_
    refine any [1, 2, 3, 4, 5, 6] 11 mixd rfl ?_
    refine gov tv15 [0, 1, 2] 8 rfl (by kernel_rfl) rfl rfl trivial ?_
    refine vcall 3 rfl (by kernel_rfl) (words_Name _) rfl rfl fun w22 => ?_
    refine gov tv15 [4, 5, 6] 4 rfl (by kernel_rfl) rfl rfl trivial ?_
    refine vcall 7 rfl (by kernel_rfl) (deed_maybe _) rfl rfl fun w23 => ?_
    have := maybeE_r d.queue.dead
    refine ve 8 rfl (by kernel_rfl) rfl (bsl 1 i64c [nameE d.queue.name, maybeE d.queue.dead] tv15 rfl rfl rfl rfl rfl (fun _ => rfl) rfl (by decide) (by decide) rfl fun u24 => ?_)
    refine ve 9 rfl (by kernel_rfl) rfl (calll 1 rfl (deed_first _) rfl rfl rfl fun w25 => ?_)
    refine gov tv15 [10] 0 rfl (by kernel_rfl) rfl rfl trivial ?_
    refine vdone (by kernel_rfl) ?_
    refine go tv15 4 rfl rfl trivial ?_
    refine rt1 rfl rfl ?_
    refine ple ?_
    refine congrArg (PV.int .i64) ?_
    unfold deedE
    repeat (first | rw [if_pos (by omega)] | rw [if_neg (by omega)] | rw [if_pos (by assumption)] | rw [if_neg (not_not_intro (by assumption))])
    all_goals first | done | rfl
  have p26 := df h20
  refine go tv15 7 rfl rfl trivial ?_
  refine cnd rfl (fun h27 => ?_) (fun h27 => ?_)
  · have p28 := dt h27
    refine go tv15 2 rfl rfl trivial ?_
    refine cndT rfl h27 ?_
    refine go tv15 4 rfl rfl trivial ?_
    refine ef (alloc tv15 1 rfl rfl rfl rfl fun b29 => ?_)
    refine ef (storeA tv15 rfl rfl rfl rfl rfl rfl rfl rfl rfl rfl ?_)
    refine go tv15 3 rfl rfl trivial ?_
    refine any [2, 3, 4, 5, 6, 7] 17 mixd rfl ?_
    refine gov tv15 [0, 1] 15 rfl (by kernel_rfl) rfl rfl trivial ?_
    refine vcall 2 rfl (by kernel_rfl) (words_Name _) rfl rfl fun w30 => ?_
    refine gov tv15 [3, 4] 12 rfl (by kernel_rfl) rfl rfl trivial ?_
    refine vcall 5 rfl (by kernel_rfl) (words_Name _) rfl rfl fun w31 => ?_
    refine gov tv15 [6, 7, 8, 9] 7 rfl (by kernel_rfl) rfl rfl trivial ?_
    refine vcall 10 rfl (by kernel_rfl) (deed_bound _ _) rfl rfl fun w32 => ?_
    refine gov tv15 [11, 12] 4 rfl (by kernel_rfl) rfl rfl trivial ?_
    refine vcall 13 rfl (by kernel_rfl) (head_Check _) rfl rfl fun w33 => ?_
    refine ve 14 rfl (by kernel_rfl) rfl (bsl 2 i64c [nameE d.bind.shop, nameE d.bind.to, boundE (decide (64 < (d.bind.key.length : Int))) 5, headE d.bind.want] tv15 rfl rfl rfl rfl rfl (fun _ => rfl) rfl (by decide) (by decide) rfl fun u34 => ?_)
    refine ve 15 rfl (by kernel_rfl) rfl (calll 2 rfl (deed_first _) rfl rfl rfl fun w35 => ?_)
    refine gov tv15 [16] 0 rfl (by kernel_rfl) rfl rfl trivial ?_
    refine vdone (by kernel_rfl) ?_
    refine go tv15 4 rfl rfl trivial ?_
    refine rt1 rfl rfl ?_
    refine ple ?_
    refine congrArg (PV.int .i64) ?_
    unfold deedE
    repeat (first | rw [if_pos (by omega)] | rw [if_neg (by omega)] | rw [if_pos (by assumption)] | rw [if_neg (not_not_intro (by assumption))])
    all_goals first | done | rfl
  have p36 := df h27
  refine go tv15 5 rfl rfl trivial ?_
  refine cnd rfl (fun h37 => ?_) (fun h37 => ?_)
  · have p38 := dt h37
    refine go tv15 4 rfl rfl trivial ?_
    refine ef (alloc tv15 1 rfl rfl rfl rfl fun b39 => ?_)
    refine ef (storeA tv15 rfl rfl rfl rfl rfl rfl rfl rfl rfl rfl ?_)
    refine go tv15 3 rfl rfl trivial ?_
    refine any [2, 3, 4, 5, 6, 7] 17 mixd rfl ?_
    refine gov tv15 [0, 1] 15 rfl (by kernel_rfl) rfl rfl trivial ?_
    refine vcall 2 rfl (by kernel_rfl) (words_Name _) rfl rfl fun w40 => ?_
    refine gov tv15 [3, 4] 12 rfl (by kernel_rfl) rfl rfl trivial ?_
    refine vcall 5 rfl (by kernel_rfl) (words_Name _) rfl rfl fun w41 => ?_
    refine gov tv15 [6, 7, 8, 9] 7 rfl (by kernel_rfl) rfl rfl trivial ?_
    refine vcall 10 rfl (by kernel_rfl) (deed_bound _ _) rfl rfl fun w42 => ?_
    refine gov tv15 [11, 12] 4 rfl (by kernel_rfl) rfl rfl trivial ?_
    refine vcall 13 rfl (by kernel_rfl) (head_Check _) rfl rfl fun w43 => ?_
    refine ve 14 rfl (by kernel_rfl) rfl (bsl 2 i64c [nameE d.bind.shop, nameE d.bind.to, boundE (decide (64 < (d.bind.key.length : Int))) 5, headE d.bind.want] tv15 rfl rfl rfl rfl rfl (fun _ => rfl) rfl (by decide) (by decide) rfl fun u44 => ?_)
    refine ve 15 rfl (by kernel_rfl) rfl (calll 2 rfl (deed_first _) rfl rfl rfl fun w45 => ?_)
    refine gov tv15 [16] 0 rfl (by kernel_rfl) rfl rfl trivial ?_
    refine vdone (by kernel_rfl) ?_
    refine go tv15 4 rfl rfl trivial ?_
    refine rt1 rfl rfl ?_
    refine ple ?_
    refine congrArg (PV.int .i64) ?_
    unfold deedE
    repeat (first | rw [if_pos (by omega)] | rw [if_neg (by omega)] | rw [if_pos (by assumption)] | rw [if_neg (not_not_intro (by assumption))])
    all_goals first | done | rfl
  have p46 := df h37
  refine go tv15 7 rfl rfl trivial ?_
  refine cnd rfl (fun h47 => ?_) (fun h47 => ?_)
  · have p48 := dt h47
    refine go tv15 2 rfl rfl trivial ?_
    refine cndT rfl h47 ?_
    refine go tv15 4 rfl rfl trivial ?_
    refine call (mail_Check _) rfl rfl fun w49 => ?_
    have := mailC_r d.mail
    have hmo49 := fun h => mailC_ok (m := d.mail) h
    refine go tv15 6 rfl rfl trivial ?_
    refine rt1 rfl rfl ?_
    refine ple ?_
    refine congrArg (PV.int .i64) ?_
    unfold deedE
    repeat (first | rw [if_pos (by omega)] | rw [if_neg (by omega)] | rw [if_pos (by assumption)] | rw [if_neg (not_not_intro (by assumption))])
    all_goals first | done | rfl
  have p50 := df h47
  refine go tv15 5 rfl rfl trivial ?_
  refine cnd rfl (fun h51 => ?_) (fun h51 => ?_)
  · have p52 := dt h51
    refine go tv15 4 rfl rfl trivial ?_
    refine call (mail_Check _) rfl rfl fun w53 => ?_
    have := mailC_r d.mail
    have hmo53 := fun h => mailC_ok (m := d.mail) h
    refine go tv15 6 rfl rfl trivial ?_
    refine rt1 rfl rfl ?_
    refine ple ?_
    refine congrArg (PV.int .i64) ?_
    unfold deedE
    repeat (first | rw [if_pos (by omega)] | rw [if_neg (by omega)] | rw [if_pos (by assumption)] | rw [if_neg (not_not_intro (by assumption))])
    all_goals first | done | rfl
  have p54 := df h51
  refine go tv15 7 rfl rfl trivial ?_
  refine cnd rfl (fun h55 => ?_) (fun h55 => ?_)
  · have p56 := dt h55
    refine go tv15 2 rfl rfl trivial ?_
    refine cndT rfl h55 ?_
    refine go tv15 8 rfl rfl trivial ?_
    refine rt1 rfl rfl ?_
    refine ple ?_
    refine congrArg (PV.int .i64) ?_
    unfold deedE
    repeat (first | rw [if_pos (by omega)] | rw [if_neg (by omega)] | rw [if_pos (by assumption)] | rw [if_neg (not_not_intro (by assumption))])
    all_goals first | done | rfl
  have p57 := df h55
  refine go tv15 5 rfl rfl trivial ?_
  refine cnd rfl (fun h58 => ?_) (fun h58 => ?_)
  · have p59 := dt h58
    refine go tv15 8 rfl rfl trivial ?_
    refine rt1 rfl rfl ?_
    refine ple ?_
    refine congrArg (PV.int .i64) ?_
    unfold deedE
    repeat (first | rw [if_pos (by omega)] | rw [if_neg (by omega)] | rw [if_pos (by assumption)] | rw [if_neg (not_not_intro (by assumption))])
    all_goals first | done | rfl
  have p60 := df h58
  refine go tv15 6 rfl rfl trivial ?_
  refine cnd rfl (fun h61 => ?_) (fun h61 => ?_)
  · have p62 := dt h61
    refine go tv15 6 rfl rfl trivial ?_
    refine call (deed_bound _ _) rfl rfl fun w63 => ?_
    refine go tv15 6 rfl rfl trivial ?_
    refine rt1 rfl rfl ?_
    refine ple ?_
    refine congrArg (PV.int .i64) ?_
    unfold deedE
    repeat (first | rw [if_pos (by omega)] | rw [if_neg (by omega)] | rw [if_pos (by assumption)] | rw [if_neg (not_not_intro (by assumption))])
    all_goals first | done | rfl
  have p64 := df h61
  refine go tv15 4 rfl rfl trivial ?_
  refine any [1, 2, 3, 4, 5, 6] 10 mixd rfl ?_
  refine gov tv15 [0, 1] 8 rfl (by kernel_rfl) rfl rfl trivial ?_
  refine vcall 2 rfl (by kernel_rfl) (words_Name _) rfl rfl fun w65 => ?_
  refine gov tv15 [3, 4, 5] 4 rfl (by kernel_rfl) rfl rfl trivial ?_
  refine vcall 6 rfl (by kernel_rfl) (deed_bound _ _) rfl rfl fun w66 => ?_
  refine ve 7 rfl (by kernel_rfl) rfl (bsl 1 i64c [nameE d.name, boundE (decide (2 < d.how)) 7] tv15 rfl rfl rfl rfl rfl (fun _ => rfl) rfl (by decide) (by decide) rfl fun u67 => ?_)
  refine ve 8 rfl (by kernel_rfl) rfl (calll 1 rfl (deed_first _) rfl rfl rfl fun w68 => ?_)
  refine gov tv15 [9] 0 rfl (by kernel_rfl) rfl rfl trivial ?_
  refine vdone (by kernel_rfl) ?_
  refine go tv15 2 rfl rfl trivial ?_
  refine rt1 rfl rfl ?_
  refine ple ?_
  refine congrArg (PV.int .i64) ?_
  unfold deedE
  repeat (first | rw [if_pos (by omega)] | rw [if_neg (by omega)] | rw [if_pos (by assumption)] | rw [if_neg (not_not_intro (by assumption))])
  all_goals first | done | rfl
end Go.SW.V
set_option linter.unusedVariables false
set_option maxRecDepth 100000
set_option maxHeartbeats 4000000
namespace Go.SW.V
open Go.SW Go.Proofs
theorem cb212 : Callable Tryz.prog 212 := callable_of Tryz.func212 (by kernel_rfl) (by kernel_rfl)
def tbv16 : Tb := [(4, ⟨.bool, 1, 1, [.bool false]⟩),
  (5, ⟨.int .u8, 1, 1, [.int .u8 0]⟩),
  (9, ⟨.str, 1, 16, [.str []]⟩),
  (27, ⟨.int .u64, 1, 8, [.int .u64 0]⟩),
  (44, ⟨.agg [(0, 1), (1, 1), (2, 1)], 3, 40, [.str [], .int .u8 0, .str []]⟩),
  (46, ⟨.agg [(0, 1), (1, 1), (2, 1), (3, 1)], 4, 48, [.str [], .int .u64 0, .int .u64 0, .str []]⟩),
  (47, ⟨.slc 199, 1, 24, [.sl Pair.pc []]⟩),
  (49, ⟨.agg [(0, 1), (1, 1), (2, 1), (3, 1), (4, 1), (5, 1)], 6, 88, [.str [], .str [], .bool false, .str [], .sl Pair.pc [], .bool false]⟩),
  (51, ⟨.agg [(0, 1), (1, 1), (2, 1), (3, 1), (4, 1), (5, 1), (6, 1)], 7, 96, [.int .u64 0, .str [], .str [], .sl Pair.pc [], .str [], .int .u64 0, .int .u8 0]⟩),
  (53, ⟨.agg [(0, 1), (1, 1), (2, 3), (5, 4), (9, 6), (15, 1), (16, 1), (17, 1), (18, 1), (19, 1), (20, 1), (21, 7), (28, 1)], 29, 344, [.int .u8 0, .int .u64 0, .str [], .int .u8 0, .str [], .str [], .int .u64 0, .int .u64 0, .str [], .str [], .str [], .bool false, .str [], .sl Pair.pc [], .bool false, .str [], .int .u64 0, .int .u8 0, .int .u8 0, .int .u8 0, .int .u64 0, .int .u64 0, .str [], .str [], .sl Pair.pc [], .str [], .int .u64 0, .int .u8 0, .str []]⟩),
  (285, ⟨.agg [(0, 1), (1, 1)], 2, 24, [.str [], .int .i64 0]⟩)]
theorem tv16 : tbB Tryz.prog tbv16 = true := by kernel_rfl
theorem deed_Bytes (d : DeedR) : Fn Tryz.prog gb 212 [.agg (DeedR.pc d)] (.tup [.str (deedBytes d), .int .i64 (deedE d)]) := by
  refine fn_cw tv16 Tryz.func212 rfl Tryz.ntmps212 rfl cb212 rfl rfl fun w N H hG => ?_
  have d_w := DeedR.pwf w.1
  have d_w' := d_w
  simp only [DeedR.wf, ShopR.wf, QueueR.wf, BindR.wf, Mail.wf] at d_w'
  have d_bind_want_k := DeedR.kd13 w.1
  have d_bind_want_k2 : d.bind.want.length ≤ 140737488355328 := w.1.2.2.2.2.2.2.2.2.2.2.2.2.2.1.1
  have d_mail_head_k := DeedR.kd24 w.1
  have d_mail_head_k2 : d.mail.head.length ≤ 140737488355328 := w.1.2.2.2.2.2.2.2.2.2.2.2.2.2.2.2.2.2.2.2.2.2.2.2.2.1.1
  refine go tv16 2 rfl rfl trivial ?_
  refine ef (boxA 0 rfl rfl rfl fun b1 => ?_)
  refine go tv16 8 rfl rfl trivial ?_
  refine call (deed_Check _) rfl rfl fun w2 => ?_
  have := deedE_r d
  refine go tv16 9 rfl rfl trivial ?_
  refine cnd rfl (fun h3 => ?_) (fun h3 => ?_)
  · have h4 := not_t h3
    have p5 := df h4
    refine go tv16 9 rfl rfl trivial ?_
    refine rt2 rfl rfl ?_
    refine ple ?_
    have e : deedBytes d = [] := by
      unfold deedBytes
      first
        | (rw [if_neg (by assumption)]; done)
        | (rw [if_pos (by assumption)]; unfold deedOut; (repeat (first | rw [if_pos (by omega)] | rw [if_neg (by omega)] | rw [if_pos (by assumption)] | rw [if_neg (by assumption)] | rw [if_neg (not_not_intro (by assumption))])); first | done | rfl)
    rw [e]
    try (rw [show deedE d = 0 by assumption])
  have h6 := not_f h3
  have p7 := dt h6
  have hdk := deedE_ok (d := d) (by omega) p7
  obtain ⟨dk1, dk2, dk3, dk4, dk5, dk6, dk7, dk8, dk9, dk10, dk11, dk12, dk13, dk14, dk15, dk16, dk17, dk18, dk19⟩ := hdk
  refine go tv16 3 rfl rfl trivial ?_
  refine any [1, 2, 3, 4, 5, 6] 10 mixd rfl ?_
  refine gov tv16 [0, 1, 2, 3] 6 rfl (by kernel_rfl) rfl rfl trivial ?_
  refine vcall 4 rfl (by kernel_rfl) (out_Num (⟨[], 0⟩ : Out) _ _ (by first | omega | (have := hrl (by assumption); omega) | (simp [outNum, outRaw, numB_len, numK] <;> omega) | (have := hrl (by assumption); simp [outNum, outRaw, numB_len, numK] <;> omega))) rfl rfl fun w8 => ?_
  have nl0 : (⟨[], 0⟩ : Out).s.length = 0 := rfl
  have := outNum_len (⟨[], 0⟩ : Out) d.kind 1
  refine gov tv16 [5, 6] 3 rfl (by kernel_rfl) rfl rfl trivial ?_
  refine vcall 7 rfl (by kernel_rfl) (out_Num _ _ _ (by first | omega | (have := hrl (by assumption); omega) | (simp [outNum, outRaw, numB_len, numK] <;> omega) | (have := hrl (by assumption); simp [outNum, outRaw, numB_len, numK] <;> omega))) rfl rfl fun w9 => ?_
  have := outNum_len (outNum (⟨[], 0⟩ : Out) d.kind 1) d.tick 8
  refine ve 8 rfl (by kernel_rfl) rfl (alloc tv16 1 rfl rfl rfl rfl fun b10 => ?_)
  refine vt 9 rfl (by kernel_rfl) (by kernel_rfl) (storeA tv16 rfl rfl rfl rfl rfl rfl rfl rfl rfl rfl ?_)
  refine vdone (by kernel_rfl) ?_
  refine go tv16 5 rfl rfl trivial ?_
  refine call (mail_Bytes _) rfl rfl fun w11 => ?_
  have := mailBytes_len d.mail
  refine go tv16 21 rfl rfl trivial ?_
  refine cnd rfl (fun h12 => ?_) (fun h12 => ?_)
  · have p13 := dt h12
    refine any [2, 3, 4, 5, 6, 7] 15 mixd rfl ?_
    refine gov tv16 [0, 1, 2, 3] 11 rfl (by kernel_rfl) rfl rfl trivial ?_
    refine vcall 4 rfl (by kernel_rfl) (out_Text _ _ (by first | omega | (have := hrl (by assumption); omega) | (simp [outNum, outRaw, numB_len, numK] <;> omega) | (have := hrl (by assumption); simp [outNum, outRaw, numB_len, numK] <;> omega))) rfl rfl fun w14 => ?_
    have := outText_len (outNum (outNum (⟨[], 0⟩ : Out) d.kind 1) d.tick 8) d.shop.name
    refine gov tv16 [5, 6, 7, 8] 6 rfl (by kernel_rfl) rfl rfl trivial ?_
    refine vcall 9 rfl (by kernel_rfl) (out_Num _ _ _ (by first | omega | (have := hrl (by assumption); omega) | (simp [outNum, outRaw, numB_len, numK] <;> omega) | (have := hrl (by assumption); simp [outNum, outRaw, numB_len, numK] <;> omega))) rfl rfl fun w15 => ?_
    have := outNum_len (outText (outNum (outNum (⟨[], 0⟩ : Out) d.kind 1) d.tick 8) d.shop.name) d.shop.sort 1
    refine gov tv16 [10, 11, 12] 2 rfl (by kernel_rfl) rfl rfl trivial ?_
    refine vcall 13 rfl (by kernel_rfl) (out_Text _ _ (by first | omega | (have := hrl (by assumption); omega) | (simp [outNum, outRaw, numB_len, numK] <;> omega) | (have := hrl (by assumption); simp [outNum, outRaw, numB_len, numK] <;> omega))) rfl rfl fun w16 => ?_
    have := outText_len (outNum (outText (outNum (outNum (⟨[], 0⟩ : Out) d.kind 1) d.tick 8) d.shop.name) d.shop.sort 1) d.shop.to
    refine vt 14 rfl (by kernel_rfl) (by kernel_rfl) (storeA tv16 rfl rfl rfl rfl rfl rfl rfl rfl rfl rfl ?_)
    refine vdone (by kernel_rfl) ?_
    refine go tv16 5 rfl rfl trivial ?_
    refine call (out_String _) rfl rfl fun w17 => ?_
    refine go tv16 5 rfl rfl trivial ?_
    refine rt2 rfl rfl ?_
    refine ple ?_
    have e : deedBytes d = (outText (outNum (outText (outNum (outNum (⟨[], 0⟩ : Out) d.kind 1) d.tick 8) d.shop.name) d.shop.sort 1) d.shop.to).s := by
      unfold deedBytes
      first
        | (rw [if_neg (by assumption)]; done)
        | (rw [if_pos (by assumption)]; unfold deedOut; (repeat (first | rw [if_pos (by omega)] | rw [if_neg (by omega)] | rw [if_pos (by assumption)] | rw [if_neg (by assumption)] | rw [if_neg (not_not_intro (by assumption))])); first | done | rfl)
    rw [e]
    try (rw [show deedE d = 0 by assumption])
  have p18 := df h12
  refine go tv16 6 rfl rfl trivial ?_
  refine cnd rfl (fun h19 => ?_) (fun h19 => ?_)
  · have p20 := dt h19
    refine any [2, 3, 4, 5, 6, 7] 18 mixd rfl ?_
    refine gov tv16 [0, 1, 2, 3] 14 rfl (by kernel_rfl) rfl rfl trivial ?_
    refine vcall 4 rfl (by kernel_rfl) (out_Text _ _ (by first | omega | (have := hrl (by assumption); omega) | (simp [outNum, outRaw, numB_len, numK] <;> omega) | (have := hrl (by assumption); simp [outNum, outRaw, numB_len, numK] <;> omega))) rfl rfl fun w21 => ?_
    have := outText_len (outNum (outNum (⟨[], 0⟩ : Out) d.kind 1) d.tick 8) d.queue.name
    refine gov tv16 [5, 6, 7] 10 rfl (by kernel_rfl) rfl rfl trivial ?_
    refine vcall 8 rfl (by kernel_rfl) (out_Num _ _ _ (by first | omega | (have := hrl (by assumption); omega) | (simp [outNum, outRaw, numB_len, numK] <;> omega) | (have := hrl (by assumption); simp [outNum, outRaw, numB_len, numK] <;> omega))) rfl rfl fun w22 => ?_
    have := outNum_len (outText (outNum (outNum (⟨[], 0⟩ : Out) d.kind 1) d.tick 8) d.queue.name) d.queue.most 8
    refine gov tv16 [9, 10, 11] 6 rfl (by kernel_rfl) rfl rfl trivial ?_
    refine vcall 12 rfl (by kernel_rfl) (out_Num _ _ _ (by first | omega | (have := hrl (by assumption); omega) | (simp [outNum, outRaw, numB_len, numK] <;> omega) | (have := hrl (by assumption); simp [outNum, outRaw, numB_len, numK] <;> omega))) rfl rfl fun w23 => ?_
    have := outNum_len (outNum (outText (outNum (outNum (⟨[], 0⟩ : Out) d.kind 1) d.tick 8) d.queue.name) d.queue.most 8) d.queue.life 8
    refine gov tv16 [13, 14, 15] 2 rfl (by kernel_rfl) rfl rfl trivial ?_
    refine vcall 16 rfl (by kernel_rfl) (out_Text _ _ (by first | omega | (have := hrl (by assumption); omega) | (simp [outNum, outRaw, numB_len, numK] <;> omega) | (have := hrl (by assumption); simp [outNum, outRaw, numB_len, numK] <;> omega))) rfl rfl fun w24 => ?_
    have := outText_len (outNum (outNum (outText (outNum (outNum (⟨[], 0⟩ : Out) d.kind 1) d.tick 8) d.queue.name) d.queue.most 8) d.queue.life 8) d.queue.dead
    refine vt 17 rfl (by kernel_rfl) (by kernel_rfl) (storeA tv16 rfl rfl rfl rfl rfl rfl rfl rfl rfl rfl ?_)
    refine vdone (by kernel_rfl) ?_
    refine go tv16 5 rfl rfl trivial ?_
    refine call (out_String _) rfl rfl fun w25 => ?_
    refine go tv16 5 rfl rfl trivial ?_
    refine rt2 rfl rfl ?_
    refine ple ?_
    have e : deedBytes d = (outText (outNum (outNum (outText (outNum (outNum (⟨[], 0⟩ : Out) d.kind 1) d.tick 8) d.queue.name) d.queue.most 8) d.queue.life 8) d.queue.dead).s := by
      unfold deedBytes
      first
        | (rw [if_neg (by assumption)]; done)
        | (rw [if_pos (by assumption)]; unfold deedOut; (repeat (first | rw [if_pos (by omega)] | rw [if_neg (by omega)] | rw [if_pos (by assumption)] | rw [if_neg (by assumption)] | rw [if_neg (not_not_intro (by assumption))])); first | done | rfl)
    rw [e]
    try (rw [show deedE d = 0 by assumption])
  have p26 := df h19
  refine go tv16 7 rfl rfl trivial ?_
  refine cnd rfl (fun h27 => ?_) (fun h27 => ?_)
  · have p28 := dt h27
    refine go tv16 2 rfl rfl trivial ?_
    refine cndT rfl h27 ?_
    refine go tv16 4 rfl rfl trivial ?_
    refine ef (alloc tv16 2 rfl rfl rfl rfl fun b29 => ?_)
    refine ef (storeA tv16 rfl rfl rfl rfl rfl rfl rfl rfl rfl rfl ?_)
    refine go tv16 6 rfl rfl trivial ?_
    refine call (head_Bytes _) rfl rfl fun w30 => ?_
    have := headBytes_len d.bind.want
    refine go tv16 7 rfl rfl trivial ?_
    refine any [3, 4, 5, 6, 7, 8] 21 mixd rfl ?_
    refine gov tv16 [0, 1, 2] 18 rfl (by kernel_rfl) rfl rfl trivial ?_
    refine vcall 3 rfl (by kernel_rfl) (out_Text _ _ (by first | omega | (have := hrl (by assumption); omega) | (simp [outNum, outRaw, numB_len, numK] <;> omega) | (have := hrl (by assumption); simp [outNum, outRaw, numB_len, numK] <;> omega))) rfl rfl fun w31 => ?_
    have := outText_len (outNum (outNum (⟨[], 0⟩ : Out) d.kind 1) d.tick 8) d.bind.shop
    refine gov tv16 [4, 5] 15 rfl (by kernel_rfl) rfl rfl trivial ?_
    refine vcall 6 rfl (by kernel_rfl) (out_Text _ _ (by first | omega | (have := hrl (by assumption); omega) | (simp [outNum, outRaw, numB_len, numK] <;> omega) | (have := hrl (by assumption); simp [outNum, outRaw, numB_len, numK] <;> omega))) rfl rfl fun w32 => ?_
    have := outText_len (outText (outNum (outNum (⟨[], 0⟩ : Out) d.kind 1) d.tick 8) d.bind.shop) d.bind.to
    refine gov tv16 [7, 8] 12 rfl (by kernel_rfl) rfl rfl trivial ?_
    refine vcall 9 rfl (by kernel_rfl) (deed_bit _) rfl rfl fun w33 => ?_
    refine vcall 10 rfl (by kernel_rfl) (out_Num _ _ _ (by first | omega | (have := hrl (by assumption); omega) | (simp [outNum, outRaw, numB_len, numK] <;> omega) | (have := hrl (by assumption); simp [outNum, outRaw, numB_len, numK] <;> omega))) rfl rfl fun w34 => ?_
    have := outNum_len (outText (outText (outNum (outNum (⟨[], 0⟩ : Out) d.kind 1) d.tick 8) d.bind.shop) d.bind.to) (bitN d.bind.up) 1
    refine gov tv16 [11, 12] 8 rfl (by kernel_rfl) rfl rfl trivial ?_
    refine vcall 13 rfl (by kernel_rfl) (out_Text _ _ (by first | omega | (have := hrl (by assumption); omega) | (simp [outNum, outRaw, numB_len, numK] <;> omega) | (have := hrl (by assumption); simp [outNum, outRaw, numB_len, numK] <;> omega))) rfl rfl fun w35 => ?_
    have := outText_len (outNum (outText (outText (outNum (outNum (⟨[], 0⟩ : Out) d.kind 1) d.tick 8) d.bind.shop) d.bind.to) (bitN d.bind.up) 1) d.bind.key
    refine gov tv16 [14] 6 rfl (by kernel_rfl) rfl rfl trivial ?_
    refine vcall 15 rfl (by kernel_rfl) (out_Raw _ _ (by first | omega | (have := hrl (by assumption); omega) | (simp [outNum, outRaw, numB_len, numK] <;> omega) | (have := hrl (by assumption); simp [outNum, outRaw, numB_len, numK] <;> omega))) rfl rfl fun w36 => ?_
    have := outRaw_len (outText (outNum (outText (outText (outNum (outNum (⟨[], 0⟩ : Out) d.kind 1) d.tick 8) d.bind.shop) d.bind.to) (bitN d.bind.up) 1) d.bind.key) (headBytes d.bind.want)
    refine gov tv16 [16, 17] 3 rfl (by kernel_rfl) rfl rfl trivial ?_
    refine vcall 18 rfl (by kernel_rfl) (deed_bit _) rfl rfl fun w37 => ?_
    refine vcall 19 rfl (by kernel_rfl) (out_Num _ _ _ (by first | omega | (have := hrl (by assumption); omega) | (simp [outNum, outRaw, numB_len, numK] <;> omega) | (have := hrl (by assumption); simp [outNum, outRaw, numB_len, numK] <;> omega))) rfl rfl fun w38 => ?_
    have := outNum_len (outRaw (outText (outNum (outText (outText (outNum (outNum (⟨[], 0⟩ : Out) d.kind 1) d.tick 8) d.bind.shop) d.bind.to) (bitN d.bind.up) 1) d.bind.key) (headBytes d.bind.want)) (bitN d.bind.all) 1
    refine vt 20 rfl (by kernel_rfl) (by kernel_rfl) (storeA tv16 rfl rfl rfl rfl rfl rfl rfl rfl rfl rfl ?_)
    refine vdone (by kernel_rfl) ?_
    refine go tv16 5 rfl rfl trivial ?_
    refine call (out_String _) rfl rfl fun w39 => ?_
    refine go tv16 5 rfl rfl trivial ?_
    refine rt2 rfl rfl ?_
    refine ple ?_
    have e : deedBytes d = (outNum (outRaw (outText (outNum (outText (outText (outNum (outNum (⟨[], 0⟩ : Out) d.kind 1) d.tick 8) d.bind.shop) d.bind.to) (bitN d.bind.up) 1) d.bind.key) (headBytes d.bind.want)) (bitN d.bind.all) 1).s := by
      unfold deedBytes
      first
        | (rw [if_neg (by assumption)]; done)
        | (rw [if_pos (by assumption)]; unfold deedOut; (repeat (first | rw [if_pos (by omega)] | rw [if_neg (by omega)] | rw [if_pos (by assumption)] | rw [if_neg (by assumption)] | rw [if_neg (not_not_intro (by assumption))])); first | done | rfl)
    rw [e]
    try (rw [show deedE d = 0 by assumption])
  have p40 := df h27
  refine go tv16 5 rfl rfl trivial ?_
  refine cnd rfl (fun h41 => ?_) (fun h41 => ?_)
  · have p42 := dt h41
    refine go tv16 4 rfl rfl trivial ?_
    refine ef (alloc tv16 2 rfl rfl rfl rfl fun b43 => ?_)
    refine ef (storeA tv16 rfl rfl rfl rfl rfl rfl rfl rfl rfl rfl ?_)
    refine go tv16 6 rfl rfl trivial ?_
    refine call (head_Bytes _) rfl rfl fun w44 => ?_
    have := headBytes_len d.bind.want
    refine go tv16 7 rfl rfl trivial ?_
    refine any [3, 4, 5, 6, 7, 8] 21 mixd rfl ?_
    refine gov tv16 [0, 1, 2] 18 rfl (by kernel_rfl) rfl rfl trivial ?_
    refine vcall 3 rfl (by kernel_rfl) (out_Text _ _ (by first | omega | (have := hrl (by assumption); omega) | (simp [outNum, outRaw, numB_len, numK] <;> omega) | (have := hrl (by assumption); simp [outNum, outRaw, numB_len, numK] <;> omega))) rfl rfl fun w45 => ?_
    have := outText_len (outNum (outNum (⟨[], 0⟩ : Out) d.kind 1) d.tick 8) d.bind.shop
    refine gov tv16 [4, 5] 15 rfl (by kernel_rfl) rfl rfl trivial ?_
    refine vcall 6 rfl (by kernel_rfl) (out_Text _ _ (by first | omega | (have := hrl (by assumption); omega) | (simp [outNum, outRaw, numB_len, numK] <;> omega) | (have := hrl (by assumption); simp [outNum, outRaw, numB_len, numK] <;> omega))) rfl rfl fun w46 => ?_
    have := outText_len (outText (outNum (outNum (⟨[], 0⟩ : Out) d.kind 1) d.tick 8) d.bind.shop) d.bind.to
    refine gov tv16 [7, 8] 12 rfl (by kernel_rfl) rfl rfl trivial ?_
    refine vcall 9 rfl (by kernel_rfl) (deed_bit _) rfl rfl fun w47 => ?_
    refine vcall 10 rfl (by kernel_rfl) (out_Num _ _ _ (by first | omega | (have := hrl (by assumption); omega) | (simp [outNum, outRaw, numB_len, numK] <;> omega) | (have := hrl (by assumption); simp [outNum, outRaw, numB_len, numK] <;> omega))) rfl rfl fun w48 => ?_
    have := outNum_len (outText (outText (outNum (outNum (⟨[], 0⟩ : Out) d.kind 1) d.tick 8) d.bind.shop) d.bind.to) (bitN d.bind.up) 1
    refine gov tv16 [11, 12] 8 rfl (by kernel_rfl) rfl rfl trivial ?_
    refine vcall 13 rfl (by kernel_rfl) (out_Text _ _ (by first | omega | (have := hrl (by assumption); omega) | (simp [outNum, outRaw, numB_len, numK] <;> omega) | (have := hrl (by assumption); simp [outNum, outRaw, numB_len, numK] <;> omega))) rfl rfl fun w49 => ?_
    have := outText_len (outNum (outText (outText (outNum (outNum (⟨[], 0⟩ : Out) d.kind 1) d.tick 8) d.bind.shop) d.bind.to) (bitN d.bind.up) 1) d.bind.key
    refine gov tv16 [14] 6 rfl (by kernel_rfl) rfl rfl trivial ?_
    refine vcall 15 rfl (by kernel_rfl) (out_Raw _ _ (by first | omega | (have := hrl (by assumption); omega) | (simp [outNum, outRaw, numB_len, numK] <;> omega) | (have := hrl (by assumption); simp [outNum, outRaw, numB_len, numK] <;> omega))) rfl rfl fun w50 => ?_
    have := outRaw_len (outText (outNum (outText (outText (outNum (outNum (⟨[], 0⟩ : Out) d.kind 1) d.tick 8) d.bind.shop) d.bind.to) (bitN d.bind.up) 1) d.bind.key) (headBytes d.bind.want)
    refine gov tv16 [16, 17] 3 rfl (by kernel_rfl) rfl rfl trivial ?_
    refine vcall 18 rfl (by kernel_rfl) (deed_bit _) rfl rfl fun w51 => ?_
    refine vcall 19 rfl (by kernel_rfl) (out_Num _ _ _ (by first | omega | (have := hrl (by assumption); omega) | (simp [outNum, outRaw, numB_len, numK] <;> omega) | (have := hrl (by assumption); simp [outNum, outRaw, numB_len, numK] <;> omega))) rfl rfl fun w52 => ?_
    have := outNum_len (outRaw (outText (outNum (outText (outText (outNum (outNum (⟨[], 0⟩ : Out) d.kind 1) d.tick 8) d.bind.shop) d.bind.to) (bitN d.bind.up) 1) d.bind.key) (headBytes d.bind.want)) (bitN d.bind.all) 1
    refine vt 20 rfl (by kernel_rfl) (by kernel_rfl) (storeA tv16 rfl rfl rfl rfl rfl rfl rfl rfl rfl rfl ?_)
    refine vdone (by kernel_rfl) ?_
    refine go tv16 5 rfl rfl trivial ?_
    refine call (out_String _) rfl rfl fun w53 => ?_
    refine go tv16 5 rfl rfl trivial ?_
    refine rt2 rfl rfl ?_
    refine ple ?_
    have e : deedBytes d = (outNum (outRaw (outText (outNum (outText (outText (outNum (outNum (⟨[], 0⟩ : Out) d.kind 1) d.tick 8) d.bind.shop) d.bind.to) (bitN d.bind.up) 1) d.bind.key) (headBytes d.bind.want)) (bitN d.bind.all) 1).s := by
      unfold deedBytes
      first
        | (rw [if_neg (by assumption)]; done)
        | (rw [if_pos (by assumption)]; unfold deedOut; (repeat (first | rw [if_pos (by omega)] | rw [if_neg (by omega)] | rw [if_pos (by assumption)] | rw [if_neg (by assumption)] | rw [if_neg (not_not_intro (by assumption))])); first | done | rfl)
    rw [e]
    try (rw [show deedE d = 0 by assumption])
  have p54 := df h41
  refine go tv16 6 rfl rfl trivial ?_
  refine cnd rfl (fun h55 => ?_) (fun h55 => ?_)
  · have p56 := dt h55
    refine go tv16 3 rfl rfl trivial ?_
    refine call (out_Raw _ _ (by first | omega | (have := hrl (by assumption); omega) | (simp [outNum, outRaw, numB_len, numK] <;> omega) | (have := hrl (by assumption); simp [outNum, outRaw, numB_len, numK] <;> omega))) rfl rfl fun w57 => ?_
    have := outRaw_len (outNum (outNum (⟨[], 0⟩ : Out) d.kind 1) d.tick 8) (mailBytes d.mail)
    refine ef (storeA tv16 rfl rfl rfl rfl rfl rfl rfl rfl rfl rfl ?_)
    refine go tv16 6 rfl rfl trivial ?_
    refine call (out_String _) rfl rfl fun w58 => ?_
    refine go tv16 5 rfl rfl trivial ?_
    refine rt2 rfl rfl ?_
    refine ple ?_
    have e : deedBytes d = (outRaw (outNum (outNum (⟨[], 0⟩ : Out) d.kind 1) d.tick 8) (mailBytes d.mail)).s := by
      unfold deedBytes
      first
        | (rw [if_neg (by assumption)]; done)
        | (rw [if_pos (by assumption)]; unfold deedOut; (repeat (first | rw [if_pos (by omega)] | rw [if_neg (by omega)] | rw [if_pos (by assumption)] | rw [if_neg (by assumption)] | rw [if_neg (not_not_intro (by assumption))])); first | done | rfl)
    rw [e]
    try (rw [show deedE d = 0 by assumption])
  have p59 := df h55
  refine go tv16 7 rfl rfl trivial ?_
  refine cnd rfl (fun h60 => ?_) (fun h60 => ?_)
  · have p61 := dt h60
    refine go tv16 2 rfl rfl trivial ?_
    refine cndT rfl h60 ?_
    refine go tv16 4 rfl rfl trivial ?_
    refine call (out_Text _ _ (by first | omega | (have := hrl (by assumption); omega) | (simp [outNum, outRaw, numB_len, numK] <;> omega) | (have := hrl (by assumption); simp [outNum, outRaw, numB_len, numK] <;> omega))) rfl rfl fun w62 => ?_
    have := outText_len (outNum (outNum (⟨[], 0⟩ : Out) d.kind 1) d.tick 8) d.name
    refine ef (storeA tv16 rfl rfl rfl rfl rfl rfl rfl rfl rfl rfl ?_)
    refine go tv16 6 rfl rfl trivial ?_
    refine call (out_String _) rfl rfl fun w63 => ?_
    refine go tv16 5 rfl rfl trivial ?_
    refine rt2 rfl rfl ?_
    refine ple ?_
    have e : deedBytes d = (outText (outNum (outNum (⟨[], 0⟩ : Out) d.kind 1) d.tick 8) d.name).s := by
      unfold deedBytes
      first
        | (rw [if_neg (by assumption)]; done)
        | (rw [if_pos (by assumption)]; unfold deedOut; (repeat (first | rw [if_pos (by omega)] | rw [if_neg (by omega)] | rw [if_pos (by assumption)] | rw [if_neg (by assumption)] | rw [if_neg (not_not_intro (by assumption))])); first | done | rfl)
    rw [e]
    try (rw [show deedE d = 0 by assumption])
  have p64 := df h60
  refine go tv16 6 rfl rfl trivial ?_
  refine cnd rfl (fun h65 => ?_) (fun h65 => ?_)
  · have p66 := dt h65
    refine go tv16 2 rfl rfl trivial ?_
    refine cndT rfl h65 ?_
    refine go tv16 4 rfl rfl trivial ?_
    refine call (out_Text _ _ (by first | omega | (have := hrl (by assumption); omega) | (simp [outNum, outRaw, numB_len, numK] <;> omega) | (have := hrl (by assumption); simp [outNum, outRaw, numB_len, numK] <;> omega))) rfl rfl fun w67 => ?_
    have := outText_len (outNum (outNum (⟨[], 0⟩ : Out) d.kind 1) d.tick 8) d.name
    refine ef (storeA tv16 rfl rfl rfl rfl rfl rfl rfl rfl rfl rfl ?_)
    refine go tv16 6 rfl rfl trivial ?_
    refine call (out_String _) rfl rfl fun w68 => ?_
    refine go tv16 5 rfl rfl trivial ?_
    refine rt2 rfl rfl ?_
    refine ple ?_
    have e : deedBytes d = (outText (outNum (outNum (⟨[], 0⟩ : Out) d.kind 1) d.tick 8) d.name).s := by
      unfold deedBytes
      first
        | (rw [if_neg (by assumption)]; done)
        | (rw [if_pos (by assumption)]; unfold deedOut; (repeat (first | rw [if_pos (by omega)] | rw [if_neg (by omega)] | rw [if_pos (by assumption)] | rw [if_neg (by assumption)] | rw [if_neg (not_not_intro (by assumption))])); first | done | rfl)
    rw [e]
    try (rw [show deedE d = 0 by assumption])
  have p69 := df h65
  refine go tv16 5 rfl rfl trivial ?_
  refine cnd rfl (fun h70 => ?_) (fun h70 => ?_)
  · have p71 := dt h70
    refine go tv16 4 rfl rfl trivial ?_
    refine call (out_Text _ _ (by first | omega | (have := hrl (by assumption); omega) | (simp [outNum, outRaw, numB_len, numK] <;> omega) | (have := hrl (by assumption); simp [outNum, outRaw, numB_len, numK] <;> omega))) rfl rfl fun w72 => ?_
    have := outText_len (outNum (outNum (⟨[], 0⟩ : Out) d.kind 1) d.tick 8) d.name
    refine ef (storeA tv16 rfl rfl rfl rfl rfl rfl rfl rfl rfl rfl ?_)
    refine go tv16 6 rfl rfl trivial ?_
    refine call (out_String _) rfl rfl fun w73 => ?_
    refine go tv16 5 rfl rfl trivial ?_
    refine rt2 rfl rfl ?_
    refine ple ?_
    have e : deedBytes d = (outText (outNum (outNum (⟨[], 0⟩ : Out) d.kind 1) d.tick 8) d.name).s := by
      unfold deedBytes
      first
        | (rw [if_neg (by assumption)]; done)
        | (rw [if_pos (by assumption)]; unfold deedOut; (repeat (first | rw [if_pos (by omega)] | rw [if_neg (by omega)] | rw [if_pos (by assumption)] | rw [if_neg (by assumption)] | rw [if_neg (not_not_intro (by assumption))])); first | done | rfl)
    rw [e]
    try (rw [show deedE d = 0 by assumption])
  have p74 := df h70
  refine go tv16 6 rfl rfl trivial ?_
  refine cnd rfl (fun h75 => ?_) (fun h75 => ?_)
  · have p76 := dt h75
    refine any [2, 3, 4, 5, 6, 7] 12 mixd rfl ?_
    refine gov tv16 [0, 1, 2] 9 rfl (by kernel_rfl) rfl rfl trivial ?_
    refine vcall 3 rfl (by kernel_rfl) (out_Text _ _ (by first | omega | (have := hrl (by assumption); omega) | (simp [outNum, outRaw, numB_len, numK] <;> omega) | (have := hrl (by assumption); simp [outNum, outRaw, numB_len, numK] <;> omega))) rfl rfl fun w77 => ?_
    have := outText_len (outNum (outNum (⟨[], 0⟩ : Out) d.kind 1) d.tick 8) d.name
    refine gov tv16 [4, 5] 6 rfl (by kernel_rfl) rfl rfl trivial ?_
    refine vcall 6 rfl (by kernel_rfl) (out_Num _ _ _ (by first | omega | (have := hrl (by assumption); omega) | (simp [outNum, outRaw, numB_len, numK] <;> omega) | (have := hrl (by assumption); simp [outNum, outRaw, numB_len, numK] <;> omega))) rfl rfl fun w78 => ?_
    have := outNum_len (outText (outNum (outNum (⟨[], 0⟩ : Out) d.kind 1) d.tick 8) d.name) d.id 8
    refine gov tv16 [7, 8, 9] 2 rfl (by kernel_rfl) rfl rfl trivial ?_
    refine vcall 10 rfl (by kernel_rfl) (out_Num _ _ _ (by first | omega | (have := hrl (by assumption); omega) | (simp [outNum, outRaw, numB_len, numK] <;> omega) | (have := hrl (by assumption); simp [outNum, outRaw, numB_len, numK] <;> omega))) rfl rfl fun w79 => ?_
    have := outNum_len (outNum (outText (outNum (outNum (⟨[], 0⟩ : Out) d.kind 1) d.tick 8) d.name) d.id 8) d.how 1
    refine vt 11 rfl (by kernel_rfl) (by kernel_rfl) (storeA tv16 rfl rfl rfl rfl rfl rfl rfl rfl rfl rfl ?_)
    refine vdone (by kernel_rfl) ?_
    refine go tv16 5 rfl rfl trivial ?_
    refine call (out_String _) rfl rfl fun w80 => ?_
    refine go tv16 5 rfl rfl trivial ?_
    refine rt2 rfl rfl ?_
    refine ple ?_
    have e : deedBytes d = (outNum (outNum (outText (outNum (outNum (⟨[], 0⟩ : Out) d.kind 1) d.tick 8) d.name) d.id 8) d.how 1).s := by
      unfold deedBytes
      first
        | (rw [if_neg (by assumption)]; done)
        | (rw [if_pos (by assumption)]; unfold deedOut; (repeat (first | rw [if_pos (by omega)] | rw [if_neg (by omega)] | rw [if_pos (by assumption)] | rw [if_neg (by assumption)] | rw [if_neg (not_not_intro (by assumption))])); first | done | rfl)
    rw [e]
    try (rw [show deedE d = 0 by assumption])
  have p81 := df h75
  refine go tv16 6 rfl rfl trivial ?_
  refine cnd rfl (fun h82 => ?_) (fun h82 => ?_)
  · have p83 := dt h82
    refine any [2, 3, 4, 5, 6, 7] 11 mixd rfl ?_
    refine gov tv16 [0, 1, 2, 3] 7 rfl (by kernel_rfl) rfl rfl trivial ?_
    refine vcall 4 rfl (by kernel_rfl) (out_Num _ _ _ (by first | omega | (have := hrl (by assumption); omega) | (simp [outNum, outRaw, numB_len, numK] <;> omega) | (have := hrl (by assumption); simp [outNum, outRaw, numB_len, numK] <;> omega))) rfl rfl fun w84 => ?_
    have := outNum_len (outNum (outNum (⟨[], 0⟩ : Out) d.kind 1) d.tick 8) d.frm 1
    refine gov tv16 [5, 6] 4 rfl (by kernel_rfl) rfl rfl trivial ?_
    refine vcall 7 rfl (by kernel_rfl) (out_Num _ _ _ (by first | omega | (have := hrl (by assumption); omega) | (simp [outNum, outRaw, numB_len, numK] <;> omega) | (have := hrl (by assumption); simp [outNum, outRaw, numB_len, numK] <;> omega))) rfl rfl fun w85 => ?_
    have := outNum_len (outNum (outNum (outNum (⟨[], 0⟩ : Out) d.kind 1) d.tick 8) d.frm 1) d.number 8
    refine gov tv16 [8] 2 rfl (by kernel_rfl) rfl rfl trivial ?_
    refine vcall 9 rfl (by kernel_rfl) (out_Raw _ _ (by first | omega | (have := hrl (by assumption); omega) | (simp [outNum, outRaw, numB_len, numK] <;> omega) | (have := hrl (by assumption); simp [outNum, outRaw, numB_len, numK] <;> omega))) rfl rfl fun w86 => ?_
    have := outRaw_len (outNum (outNum (outNum (outNum (⟨[], 0⟩ : Out) d.kind 1) d.tick 8) d.frm 1) d.number 8) (mailBytes d.mail)
    refine vt 10 rfl (by kernel_rfl) (by kernel_rfl) (storeA tv16 rfl rfl rfl rfl rfl rfl rfl rfl rfl rfl ?_)
    refine vdone (by kernel_rfl) ?_
    refine go tv16 5 rfl rfl trivial ?_
    refine call (out_String _) rfl rfl fun w87 => ?_
    refine go tv16 5 rfl rfl trivial ?_
    refine rt2 rfl rfl ?_
    refine ple ?_
    have e : deedBytes d = (outRaw (outNum (outNum (outNum (outNum (⟨[], 0⟩ : Out) d.kind 1) d.tick 8) d.frm 1) d.number 8) (mailBytes d.mail)).s := by
      unfold deedBytes
      first
        | (rw [if_neg (by assumption)]; done)
        | (rw [if_pos (by assumption)]; unfold deedOut; (repeat (first | rw [if_pos (by omega)] | rw [if_neg (by omega)] | rw [if_pos (by assumption)] | rw [if_neg (by assumption)] | rw [if_neg (not_not_intro (by assumption))])); first | done | rfl)
    rw [e]
    try (rw [show deedE d = 0 by assumption])
  have p88 := df h82
  refine go tv16 6 rfl rfl trivial ?_
  refine cnd rfl (fun h89 => ?_) (fun h89 => ?_)
  · have p90 := dt h89
    refine any [2, 3, 4, 5, 6, 7] 9 mixd rfl ?_
    refine gov tv16 [0, 1, 2, 3] 5 rfl (by kernel_rfl) rfl rfl trivial ?_
    refine vcall 4 rfl (by kernel_rfl) (out_Num _ _ _ (by first | omega | (have := hrl (by assumption); omega) | (simp [outNum, outRaw, numB_len, numK] <;> omega) | (have := hrl (by assumption); simp [outNum, outRaw, numB_len, numK] <;> omega))) rfl rfl fun w91 => ?_
    have := outNum_len (outNum (outNum (⟨[], 0⟩ : Out) d.kind 1) d.tick 8) d.code 1
    refine gov tv16 [5, 6] 2 rfl (by kernel_rfl) rfl rfl trivial ?_
    refine vcall 7 rfl (by kernel_rfl) (out_Text _ _ (by first | omega | (have := hrl (by assumption); omega) | (simp [outNum, outRaw, numB_len, numK] <;> omega) | (have := hrl (by assumption); simp [outNum, outRaw, numB_len, numK] <;> omega))) rfl rfl fun w92 => ?_
    have := outText_len (outNum (outNum (outNum (⟨[], 0⟩ : Out) d.kind 1) d.tick 8) d.code 1) d.text
    refine vt 8 rfl (by kernel_rfl) (by kernel_rfl) (storeA tv16 rfl rfl rfl rfl rfl rfl rfl rfl rfl rfl ?_)
    refine vdone (by kernel_rfl) ?_
    refine go tv16 5 rfl rfl trivial ?_
    refine call (out_String _) rfl rfl fun w93 => ?_
    refine go tv16 5 rfl rfl trivial ?_
    refine rt2 rfl rfl ?_
    refine ple ?_
    have e : deedBytes d = (outText (outNum (outNum (outNum (⟨[], 0⟩ : Out) d.kind 1) d.tick 8) d.code 1) d.text).s := by
      unfold deedBytes
      first
        | (rw [if_neg (by assumption)]; done)
        | (rw [if_pos (by assumption)]; unfold deedOut; (repeat (first | rw [if_pos (by omega)] | rw [if_neg (by omega)] | rw [if_pos (by assumption)] | rw [if_neg (by assumption)] | rw [if_neg (not_not_intro (by assumption))])); first | done | rfl)
    rw [e]
    try (rw [show deedE d = 0 by assumption])
  have p94 := df h89
  refine go tv16 6 rfl rfl trivial ?_
  refine call (out_String _) rfl rfl fun w95 => ?_
  refine go tv16 5 rfl rfl trivial ?_
  refine rt2 rfl rfl ?_
  refine ple ?_
  have e : deedBytes d = (outNum (outNum (⟨[], 0⟩ : Out) d.kind 1) d.tick 8).s := by
    unfold deedBytes
    first
      | (rw [if_neg (by assumption)]; done)
      | (rw [if_pos (by assumption)]; unfold deedOut; (repeat (first | rw [if_pos (by omega)] | rw [if_neg (by omega)] | rw [if_pos (by assumption)] | rw [if_neg (by assumption)] | rw [if_neg (not_not_intro (by assumption))])); first | done | rfl)
  rw [e]
  try (rw [show deedE d = 0 by assumption])
end Go.SW.V
set_option linter.unusedVariables false
set_option maxRecDepth 100000
set_option maxHeartbeats 4000000
namespace Go.SW.V
open Go.SW Go.Proofs
theorem cb104 : Callable Tryz.prog 104 := callable_of Tryz.func104 (by kernel_rfl) (by kernel_rfl)
theorem cb28 : Callable Tryz.prog 28 := callable_of Tryz.func28 (by kernel_rfl) (by kernel_rfl)
theorem cb67 : Callable Tryz.prog 67 := callable_of Tryz.func67 (by kernel_rfl) (by kernel_rfl)
def tbv18 : Tb := [(9, ⟨.str, 1, 16, [.str []]⟩),
  (200, ⟨.slc 9, 1, 24, [.sl strc []]⟩)]
theorem tv18 : tbB Tryz.prog tbv18 = true := by kernel_rfl
theorem r4_Name (s : Bs) : Fn Tryz.prog gb 28 [.str s] (.int .i64 (nameE s)) := by
  refine fn_cw tv18 Tryz.func28 rfl Tryz.ntmps28 rfl cb28 rfl rfl fun w N H hG => ?_
  have s_l : s.length ≤ 9223372036854775807 := w.1
  refine go tv18 13 rfl rfl trivial ?_
  refine cnd rfl (fun h1 => ?_) (fun h1 => ?_)
  · have p2 := dt h1
    refine go tv18 7 rfl rfl trivial ?_
    refine rt1 rfl rfl ?_
    refine ple ?_
    have : s = [] := List.eq_nil_of_length_eq_zero (by omega)
    subst this
    rfl
  have p3 := df h1
  refine go tv18 10 rfl rfl trivial ?_
  refine cnd rfl (fun h4 => ?_) (fun h4 => ?_)
  · have p5 := dt h4
    refine go tv18 7 rfl rfl trivial ?_
    refine rt1 rfl rfl ?_
    refine ple ?_
    have hne : ¬ s = [] := fun q => by subst q; simp at *
    unfold nameE
    rw [if_neg hne, if_pos (by omega)]
  have p6 := df h4
  refine go tv18 9 rfl rfl trivial ?_
  refine loop (ι := Nat) [0, 4, 5, 6, 7, 8, 9] [] (fun k => [(3, .int .i64 (k : Int))]) (fun k => []) (fun k => k ≤ s.length ∧ (s.drop k).all (fun c => letter c.toNat) = plain s) (fun k => s.length - k) 0 ⟨rfl, trivial⟩ trivial ?_ ?_
  · exact ⟨by omega, rfl⟩
  rintro k hp7
  obtain ⟨hk1, hk2⟩ := hp7
  refine go tv18 9 rfl rfl trivial ?_
  refine cnd rfl (fun h8 => ?_) (fun h8 => ?_)
  · have p9 := dt h8
    have := u8r (s.getD k 0)
    refine go tv18 8 rfl rfl trivial ?_
    refine q1 (sidx tv18 k rfl rfl rfl rfl rfl (by omega)) rfl fun w10 => ?_
    refine call (r4_letter _) rfl rfl fun w11 => ?_
    refine go tv18 3 rfl rfl trivial ?_
    refine cnd rfl (fun h12 => ?_) (fun h12 => ?_)
    · have h13 := not_t h12
      refine go tv18 11 rfl rfl trivial ?_
      refine rt1 rfl rfl ?_
      refine ple ?_
      have hne : ¬ s = [] := fun q => by subst q; simp at *
      unfold nameE
      rw [if_neg hne, if_neg (by omega), ← hk2, letter_all (k := k) (by omega)]
      simp only [*, Bool.false_and, Bool.false_eq_true, if_false]
    have h14 := not_f h12
    refine go tv18 8 rfl rfl ⟨(by omega), trivial⟩ ?_
    refine next (k + 1) rfl rfl ⟨rfl, trivial⟩ trivial ?_ ?_
    · omega
    refine ⟨by omega, ?_⟩
    rw [← hk2, letter_all (k := k) (by omega)]
    simp only [*, Bool.true_and]
  have p15 := df h8
  refine go tv18 11 rfl rfl trivial ?_
  refine rt1 rfl rfl ?_
  refine ple ?_
  have hne : ¬ s = [] := fun q => by subst q; simp at *
  unfold nameE
  rw [if_neg hne, if_neg (by omega), ← hk2, List.drop_of_length_le (by omega)]
  rfl
theorem r4_Split (s : Bs) (hs : s.length ≤ 1000000) : Fn Tryz.prog gb 104 [.str s] (.sl strc (wordsOf s)) := by
  refine fn_cw tv18 Tryz.func104 rfl Tryz.ntmps104 rfl cb104 rfl rfl fun w N H hG => ?_
  have s_l : s.length ≤ 9223372036854775807 := w.1
  refine go tv18 13 rfl rfl trivial ?_
  refine cnd rfl (fun h1 => ?_) (fun h1 => ?_)
  · have p2 := dt h1
    refine go tv18 7 rfl rfl trivial ?_
    refine rt1 rfl rfl ?_
    refine ple_nilx ?_
    unfold wordsOf; rw [if_pos (List.eq_nil_of_length_eq_zero (by omega))]
  have p3 := df h1
  refine go tv18 19 rfl rfl trivial ?_
  refine sw_own (t := 3) (k := 1) (e := 9) 0 strc rfl rfl ?_
  refine loop (ι := Nat × Nat × (List Bs) × Value) [0, 2, 6, 7, 8] [] (fun ⟨f, k, out, u_out⟩ => [(3, .osl 0), (4, .int .i64 (f : Int)), (5, .int .i64 (k : Int))]) (fun ⟨f, k, out, u_out⟩ => [(0, .arr u_out 1 9 strc out)]) (fun ⟨f, k, out, u_out⟩ => f ≤ k ∧ k ≤ s.length ∧ dots s = out ++ dots (s.drop f) ∧ noDot s f k ∧ out.length ≤ k) (fun ⟨f, k, out, u_out⟩ => s.length - k) ⟨0, 0, [], (.slice none 0 0)⟩ ⟨rfl, rfl, rfl, trivial⟩ ⟨rfl, trivial⟩ ?_ ?_
  · exact ⟨Nat.le_refl _, Nat.zero_le _, rfl, noDot_nil, Nat.zero_le _⟩
  rintro ⟨f, k, out, u_out⟩ hp4
  obtain ⟨hk1, hk2, hk3, hk4, hk5⟩ := hp4
  refine go tv18 9 rfl rfl trivial ?_
  refine cnd rfl (fun h5 => ?_) (fun h5 => ?_)
  · have p6 := dt h5
    have := u8r (s.getD k 0)
    refine go tv18 8 rfl rfl trivial ?_
    refine q1 (sidx tv18 k rfl rfl rfl rfl rfl (by omega)) rfl fun w7 => ?_
    refine go tv18 3 rfl rfl trivial ?_
    refine cnd rfl (fun h8 => ?_) (fun h8 => ?_)
    · have p9 := dt h8
      refine go tv18 6 rfl rfl trivial ?_
      refine q1 (ssl tv18 f k rfl rfl rfl rfl rfl rfl rfl (by omega) (by omega)) rfl fun w10 => ?_
      refine ef (bsl 1 strc [((s.drop f).take (k - f))] tv18 rfl rfl rfl rfl rfl (fun _ => rfl) rfl (by decide) (by decide) rfl fun u11 => ?_)
      refine ef (app tv18 [((s.drop f).take (k - f))] rfl rfl rfl rfl rfl rfl rfl rfl rfl (src_o rfl rfl) (by first | omega | (simp; omega)) rfl fun u12 => ?_)
      refine go tv18 15 rfl rfl ⟨(by omega), (by omega), trivial⟩ ?_
      refine next ⟨(k + 1), (k + 1), (out ++ [((s.drop f).take (k - f))]), (u12)⟩ rfl rfl ⟨rfl, rfl, rfl, trivial⟩ ⟨rfl, trivial⟩ ?_ ?_
      · (try simp only []); omega
      (try simp only [])
      refine ⟨by omega, by omega, split_hit hk3 hk4 (by omega) (by omega) (byteEq (n := 46) (by omega) (by omega)), noDot_nil, by simp; omega⟩
    have p13 := df h8
    refine go tv18 8 rfl rfl ⟨(by omega), trivial⟩ ?_
    refine next ⟨f, (k + 1), out, (u_out)⟩ rfl rfl ⟨rfl, rfl, rfl, trivial⟩ ⟨rfl, trivial⟩ ?_ ?_
    · (try simp only []); omega
    exact ⟨by omega, by omega, hk3, noDot_step hk4 (byteNe (n := 46) (by omega) (by omega)), by omega⟩
  have p14 := df h5
  refine go tv18 10 rfl rfl trivial ?_
  refine q1 (sslo tv18 f rfl rfl rfl rfl rfl (by omega)) rfl fun w15 => ?_
  refine ef (bsl 1 strc [(s.drop f)] tv18 rfl rfl rfl rfl rfl (fun _ => rfl) rfl (by decide) (by decide) rfl fun u16 => ?_)
  refine ef (app tv18 [(s.drop f)] rfl rfl rfl rfl rfl rfl rfl rfl rfl (src_o rfl rfl) (by first | omega | (simp; omega)) rfl fun u17 => ?_)
  refine go tv18 3 rfl rfl trivial ?_
  refine givec 0 rfl ?_
  refine go tv18 1 rfl rfl trivial ?_
  refine rt1 rfl rfl ?_
  refine ple ?_
  have hne : ¬ s = [] := fun q => by subst q; simp at *
  have e : wordsOf s = (out ++ [(s.drop f)]) := by unfold wordsOf; rw [if_neg hne]; exact split_end hk3 hk4 (by omega)
  first | (rw [e]; done) | (rw [e]; rfl)
theorem r4_Key (s : Bs) (pattern : Bool) : Fn Tryz.prog gb 67 [.str s, .bool pattern] (.int .i64 (keyE (besidesOf pattern) s)) := by
  refine fn_cw tv18 Tryz.func67 rfl Tryz.ntmps67 rfl cb67 rfl rfl fun w N H hG => ?_
  have s_l : s.length ≤ 9223372036854775807 := w.1
  refine go tv18 13 rfl rfl trivial ?_
  refine cnd rfl (fun h1 => ?_) (fun h1 => ?_)
  · have p2 := dt h1
    refine go tv18 7 rfl rfl trivial ?_
    refine rt1 rfl rfl ?_
    refine ple ?_
    unfold keyE
    rw [if_pos (by omega)]
  have p3 := df h1
  refine go tv18 6 rfl rfl trivial ?_
  refine call (r4_Split _ (by first | omega | (simp; done) | decide)) rfl rfl fun w4 => ?_
  refine go tv18 5 rfl rfl trivial ?_
  refine loop (ι := Nat) [0, 1, 9, 10, 11, 12, 13, 14] [] (fun k => [(15, .int .i64 (k : Int))]) (fun k => []) (fun k => k ≤ (wordsOf s).length ∧ (wordsOf s).any (isBad (besidesOf pattern)) = ((wordsOf s).drop k).any (isBad (besidesOf pattern))) (fun k => (wordsOf s).length - k) 0 ⟨rfl, trivial⟩ trivial ?_ ?_
  · exact ⟨Nat.zero_le _, by simp⟩
  rintro k hp5
  obtain ⟨hk1, hk2⟩ := hp5
  have hwl := words_le s
  refine go tv18 6 rfl rfl trivial ?_
  refine cnd rfl (fun h6 => ?_) (fun h6 => ?_)
  · have p7 := dt h6
    obtain ⟨c8, hc9⟩ := getE (xs := wordsOf s) (m := k) (by omega)
    have c8_l : c8.length ≤ 9223372036854775807 := (w4.2 c8 (List.mem_of_getElem? hc9)).1
    refine go tv18 6 rfl rfl trivial ?_
    refine q1 (qidx tv18 k rfl rfl rfl hc9 rfl rfl rfl rfl) rfl fun w10 => ?_
    refine go tv18 19 rfl rfl trivial ?_
    refine loop (ι := Nat × Bool) [0, 1, 6, 9, 10, 11, 12, 13, 14, 15, 16, 17, 18, 19, 20, 21] [] (fun ⟨j, b⟩ => [(7, .bool b), (8, .int .i64 (j : Int))]) (fun ⟨j, b⟩ => []) (fun ⟨j, b⟩ => j ≤ c8.length ∧ (decide ((c8.length : Int) = 0) || !plain c8) = (b || !((c8.drop j).all (fun c => letter c.toNat)))) (fun ⟨j, b⟩ => c8.length - j) ⟨0, (decide ((c8.length : Int) = 0))⟩ ⟨rfl, rfl, trivial⟩ trivial ?_ ?_
    · exact ⟨Nat.zero_le _, rfl⟩
    rintro ⟨j, b⟩ hp11
    obtain ⟨hj1, hj2⟩ := hp11
    refine go tv18 9 rfl rfl trivial ?_
    refine cnd rfl (fun h12 => ?_) (fun h12 => ?_)
    · have p13 := dt h12
      have := u8r (c8.getD j 0)
      refine go tv18 9 rfl rfl trivial ?_
      refine q1g [30, 31] rfl (fun hc => sidx tv18 j rfl rfl rfl rfl rfl (by first | omega | (simp only [gOf, Bool.and_eq_true, Bool.or_eq_true, Bool.not_eq_true', decide_eq_true_eq, decide_eq_false_iff_not, Bool.not_eq_false', Bool.and_true, Bool.true_and, cond_true, cond_false] at *; omega))) ⟨(fun hc => hc), (fun hc => hc), trivial⟩ rfl rfl rfl fun _ => ?_
      refine callg rfl (fun hc => (r4_letter _)) rfl ⟨(fun hc => hc), trivial⟩ rfl rfl fun _ => ?_
      refine go tv18 11 rfl rfl ⟨(fun hc => hc), rfl, rfl, (by omega), trivial⟩ ?_
      refine next ⟨(j + 1), (b || (!(letter ((c8.getD j 0).toNat : Int))))⟩ rfl rfl ⟨rfl, rfl, trivial⟩ trivial ?_ ?_
      · (try simp only []); omega
      refine ⟨by omega, ?_⟩
      rw [hj2, letter_all (k := j) (by omega)]
      simp only [*, Bool.true_or, Bool.false_or, Bool.not_and, Bool.not_true, Bool.not_false, Bool.false_and, Bool.true_and, Bool.or_assoc]
    have p14 := df h12
    refine go tv18 22 rfl rfl ⟨(fun hc => hc), (fun hc => hc), (fun hc => hc), (fun hc => hc), (fun hc => hc), (fun hc => (by rw [hc]; rfl)), (fun hc => rfl), (fun hc => hc), (fun hc => (by rw [hc]; rfl)), (fun hc => rfl), (fun hc => hc), rfl, rfl, trivial⟩ ?_
    refine cnd rfl (fun h15 => ?_) (fun h15 => ?_)
    · have h16 := bl h15
      have h17 := br h15
      have h18 := not_t h17
      refine go tv18 11 rfl rfl trivial ?_
      refine rt1 rfl rfl ?_
      refine ple ?_
      rw [List.drop_of_length_le (by omega)] at hj2
      have hX := hj2
      simp only [List.all_nil, Bool.not_true, Bool.or_false] at hX
      have hb : isBad (besidesOf pattern) c8 = true := by rw [isBad_doc hX]; first | (simp [*]; done) | (simp_all; done) | (cases pattern <;> simp_all; done) | grind
      unfold keyE
      rw [if_neg (by omega), hk2, dropE hc9, List.any_cons, hb]
      rfl
    refine go tv18 7 rfl rfl ⟨(by omega), trivial⟩ ?_
    refine next (k + 1) rfl rfl ⟨rfl, trivial⟩ trivial ?_ ?_
    · omega
    refine ⟨by omega, ?_⟩
    rw [List.drop_of_length_le (by omega)] at hj2
    have hX := hj2
    simp only [List.all_nil, Bool.not_true, Bool.or_false] at hX
    have hb : isBad (besidesOf pattern) c8 = false := by rw [isBad_doc hX]; first | (simp [*]; done) | (simp_all; done) | (cases pattern <;> simp_all; done) | grind
    rw [hk2, dropE hc9, List.any_cons, hb]
    simp
  have p19 := df h6
  refine go tv18 11 rfl rfl trivial ?_
  refine rt1 rfl rfl ?_
  refine ple ?_
  unfold keyE
  rw [if_neg (by omega), hk2, List.drop_of_length_le (by omega)]
  rfl
end Go.SW.V
set_option linter.unusedVariables false
set_option maxRecDepth 100000
set_option maxHeartbeats 4000000
namespace Go.SW.V
open Go.SW Go.Proofs
theorem cb105 : Callable Tryz.prog 105 := callable_of Tryz.func105 (by kernel_rfl) (by kernel_rfl)
theorem cb68 : Callable Tryz.prog 68 := callable_of Tryz.func68 (by kernel_rfl) (by kernel_rfl)
def tbv19 : Tb := [(2, ⟨.int .i64, 1, 8, [.int .i64 0]⟩),
  (5, ⟨.int .u8, 1, 1, [.int .u8 0]⟩),
  (9, ⟨.str, 1, 16, [.str []]⟩),
  (47, ⟨.slc 199, 1, 24, [.sl Pair.pc []]⟩),
  (199, ⟨.agg [(0, 1), (1, 1), (2, 1), (3, 1)], 4, 48, [.str [], .int .u8 0, .int .i64 0, .str []]⟩)]
theorem tv19 : tbB Tryz.prog tbv19 = true := by kernel_rfl
theorem r9_Pair (p : Pair) (ahead : List Pair) : Fn Tryz.prog gb 105 [.agg (Pair.pc p), .sl Pair.pc ahead] (.int .i64 (pairErr p ahead)) := by
  refine fn_cw tv19 Tryz.func105 rfl Tryz.ntmps105 rfl cb105 rfl rfl fun w N H hG => ?_
  have ahead_l : ahead.length ≤ 140737488355328 := w.2.1.1
  refine go tv19 2 rfl rfl trivial ?_
  refine ef (boxA 0 rfl rfl rfl fun b1 => ?_)
  refine go tv19 7 rfl rfl trivial ?_
  refine call (r4_Name _) rfl rfl fun w2 => ?_
  refine go tv19 10 rfl rfl trivial ?_
  refine cnd rfl (fun h3 => ?_) (fun h3 => ?_)
  · have h4 := not_t h3
    have p5 := df h4
    refine go tv19 8 rfl rfl trivial ?_
    refine rt1 rfl rfl ?_
    refine ple ?_
    refine congrArg (PV.int .i64) ?_
    rw [pairErr_doc]
    simp only [Bool.or_eq_true, Bool.and_eq_true, Bool.not_eq_true', decide_eq_true_eq, Bool.or_eq_false_iff, Bool.and_eq_false_iff, Bool.not_eq_false', decide_eq_false_iff_not, beq_iff_eq, beq_eq_false_iff_ne] at *
    first | (simp [*]; done) | (simp [*]; omega) | ((repeat' split) <;> first | rfl | omega | (exfalso; simp_all; done) | (exfalso; simp_all; omega) | grind)
  have h6 := not_f h3
  have p7 := dt h6
  refine go tv19 10 rfl rfl trivial ?_
  refine cnd rfl (fun h8 => ?_) (fun h8 => ?_)
  · have p9 := dt h8
    refine go tv19 7 rfl rfl trivial ?_
    refine rt1 rfl rfl ?_
    refine ple ?_
    refine congrArg (PV.int .i64) ?_
    rw [pairErr_doc]
    simp only [Bool.or_eq_true, Bool.and_eq_true, Bool.not_eq_true', decide_eq_true_eq, Bool.or_eq_false_iff, Bool.and_eq_false_iff, Bool.not_eq_false', decide_eq_false_iff_not, beq_iff_eq, beq_eq_false_iff_ne] at *
    first | (simp [*]; done) | (simp [*]; omega) | ((repeat' split) <;> first | rfl | omega | (exfalso; simp_all; done) | (exfalso; simp_all; omega) | grind)
  have p10 := df h8
  refine go tv19 16 rfl rfl ⟨(fun hc => hc), (fun hc => hc), (fun hc => hc), rfl, rfl, trivial⟩ ?_
  refine cnd rfl (fun h11 => ?_) (fun h11 => ?_)
  · have h12 := bl h11
    have p13 := dt h12
    have h14 := br h11
    have p15 := dt h14
    refine go tv19 7 rfl rfl trivial ?_
    refine rt1 rfl rfl ?_
    refine ple ?_
    refine congrArg (PV.int .i64) ?_
    rw [pairErr_doc]
    simp only [Bool.or_eq_true, Bool.and_eq_true, Bool.not_eq_true', decide_eq_true_eq, Bool.or_eq_false_iff, Bool.and_eq_false_iff, Bool.not_eq_false', decide_eq_false_iff_not, beq_iff_eq, beq_eq_false_iff_ne] at *
    first | (simp [*]; done) | (simp [*]; omega) | ((repeat' split) <;> first | rfl | omega | (exfalso; simp_all; done) | (exfalso; simp_all; omega) | grind)
  refine go tv19 20 rfl rfl ⟨(fun hc => hc), (fun hc => hc), (fun hc => hc), (fun hc => hc), (fun hc => hc), (fun hc => hc), (fun hc => (by rw [hc]; rfl)), (fun hc => rfl), rfl, rfl, trivial⟩ ?_
  refine cnd rfl (fun h16 => ?_) (fun h16 => ?_)
  · have h17 := bl h16
    have p18 := dt h17
    have h19 := br h16
    refine go tv19 7 rfl rfl trivial ?_
    refine rt1 rfl rfl ?_
    refine ple ?_
    refine congrArg (PV.int .i64) ?_
    rw [pairErr_doc]
    simp only [Bool.or_eq_true, Bool.and_eq_true, Bool.not_eq_true', decide_eq_true_eq, Bool.or_eq_false_iff, Bool.and_eq_false_iff, Bool.not_eq_false', decide_eq_false_iff_not, beq_iff_eq, beq_eq_false_iff_ne] at *
    first | (simp [*]; done) | (simp [*]; omega) | ((repeat' split) <;> first | rfl | omega | (exfalso; simp_all; done) | (exfalso; simp_all; omega) | grind)
  refine go tv19 25 rfl rfl ⟨(fun hc => hc), (fun hc => hc), rfl, rfl, (fun hc => hc), (fun hc => hc), (fun hc => hc), (fun hc => hc), (fun hc => hc), (fun hc => hc), (fun hc => (by rw [hc]; rfl)), (fun hc => rfl), rfl, rfl, trivial⟩ ?_
  refine cnd rfl (fun h20 => ?_) (fun h20 => ?_)
  · refine go tv19 7 rfl rfl trivial ?_
    refine rt1 rfl rfl ?_
    refine ple ?_
    refine congrArg (PV.int .i64) ?_
    rw [pairErr_doc]
    simp only [Bool.or_eq_true, Bool.and_eq_true, Bool.not_eq_true', decide_eq_true_eq, Bool.or_eq_false_iff, Bool.and_eq_false_iff, Bool.not_eq_false', decide_eq_false_iff_not, beq_iff_eq, beq_eq_false_iff_ne] at *
    first | (simp [*]; done) | (simp [*]; omega) | ((repeat' split) <;> first | rfl | omega | (exfalso; simp_all; done) | (exfalso; simp_all; omega) | grind)
  have h21 := orl h20
  have h22 := orr h20
  refine go tv19 11 rfl rfl trivial ?_
  refine loop (ι := Nat) [0, 1, 2, 5, 8, 9, 10, 11, 12, 14, 15, 16, 17, 18, 19, 20, 21, 22, 23, 24, 25, 26, 27, 28, 29, 30, 31, 32, 33, 34, 35, 36, 37, 38, 39, 40, 41, 42, 43, 44, 45, 46, 47, 48, 49, 50, 51, 52, 53, 54, 55, 56, 57, 58] [0] (fun k => [(59, .int .i64 (k : Int))]) (fun k => []) (fun k => k ≤ ahead.length ∧ findP ahead p.key = findP (ahead.drop k) p.key) (fun k => ahead.length - k) 0 ⟨rfl, trivial⟩ trivial ?_ ?_
  · exact ⟨Nat.zero_le _, rfl⟩
  rintro k hp23
  obtain ⟨hk1, hk2⟩ := hp23
  refine go tv19 6 rfl rfl trivial ?_
  refine cnd rfl (fun h24 => ?_) (fun h24 => ?_)
  · have p25 := dt h24
    obtain ⟨c26, hc27⟩ := getE (xs := ahead) (m := k) (by omega)
    have c26_w := Pair.pwf (w.2.1.2 c26 (List.mem_of_getElem? hc27))
    refine go tv19 6 rfl rfl trivial ?_
    refine q1 (qidx tv19 k rfl rfl rfl hc27 rfl rfl rfl rfl) rfl fun w28 => ?_
    refine go tv19 1 rfl rfl trivial ?_
    refine ef (alloc tv19 1 rfl rfl rfl rfl fun b29 => ?_)
    refine ef (storeA tv19 rfl rfl rfl rfl rfl rfl rfl rfl rfl rfl ?_)
    refine go tv19 11 rfl rfl trivial ?_
    refine cnd rfl (fun h30 => ?_) (fun h30 => ?_)
    · have p31 := dt h30
      refine go tv19 11 rfl rfl trivial ?_
      refine rt1 rfl rfl ?_
      refine ple ?_
      have e9 := findP_hit hk2 (dropE hc27) (by assumption)
      clear hk2
      refine congrArg (PV.int .i64) ?_
      rw [pairErr_doc]
      simp only [Bool.or_eq_true, Bool.and_eq_true, Bool.not_eq_true', decide_eq_true_eq, Bool.or_eq_false_iff, Bool.and_eq_false_iff, Bool.not_eq_false', decide_eq_false_iff_not, beq_iff_eq, beq_eq_false_iff_ne] at *
      first | (simp [*]; done) | (simp [*]; omega) | ((repeat' split) <;> first | rfl | omega | (exfalso; simp_all; done) | (exfalso; simp_all; omega) | grind)
    have p32 := df h30
    refine go tv19 7 rfl rfl ⟨(by omega), trivial⟩ ?_
    refine next (k + 1) rfl rfl ⟨rfl, trivial⟩ trivial ?_ ?_
    · omega
    exact ⟨by omega, findP_miss hk2 (dropE hc27) (by assumption)⟩
  have p33 := df h24
  refine go tv19 11 rfl rfl trivial ?_
  refine rt1 rfl rfl ?_
  refine ple ?_
  have e9 : findP ahead p.key = none := by rw [hk2, List.drop_of_length_le (by omega)]; rfl
  clear hk2
  refine congrArg (PV.int .i64) ?_
  rw [pairErr_doc]
  simp only [Bool.or_eq_true, Bool.and_eq_true, Bool.not_eq_true', decide_eq_true_eq, Bool.or_eq_false_iff, Bool.and_eq_false_iff, Bool.not_eq_false', decide_eq_false_iff_not, beq_iff_eq, beq_eq_false_iff_ne] at *
  first | (simp [*]; done) | (simp [*]; omega) | ((repeat' split) <;> first | rfl | omega | (exfalso; simp_all; done) | (exfalso; simp_all; omega) | grind)
theorem r9_Check (h : List Pair) : Fn Tryz.prog gb 68 [.sl Pair.pc h] (.int .i64 (headE h)) := by
  refine fn_cw tv19 Tryz.func68 rfl Tryz.ntmps68 rfl cb68 rfl rfl fun w N H hG => ?_
  have h_l : h.length ≤ 140737488355328 := w.1.1
  refine go tv19 13 rfl rfl trivial ?_
  refine cnd rfl (fun h1 => ?_) (fun h1 => ?_)
  · have p2 := dt h1
    refine go tv19 7 rfl rfl trivial ?_
    refine rt1 rfl rfl ?_
    refine ple ?_
    simp [headE, *]
  have p3 := df h1
  refine go tv19 11 rfl rfl trivial ?_
  refine loop (ι := Nat) [0, 6, 7, 8, 9, 10] [] (fun k => [(11, .int .i64 (k : Int))]) (fun k => []) (fun k => k ≤ h.length ∧ headGo [] h = headGo (h.take k) (h.drop k)) (fun k => h.length - k) 0 ⟨rfl, trivial⟩ trivial ?_ ?_
  · exact ⟨Nat.zero_le _, rfl⟩
  rintro k hp4
  obtain ⟨hk1, hk2⟩ := hp4
  refine go tv19 6 rfl rfl trivial ?_
  refine cnd rfl (fun h5 => ?_) (fun h5 => ?_)
  · have p6 := dt h5
    obtain ⟨c7, hc8⟩ := getE (xs := h) (m := k) (by omega)
    have c7_w := Pair.pwf (w.1.2 c7 (List.mem_of_getElem? hc8))
    refine go tv19 7 rfl rfl trivial ?_
    refine q1 (qidx tv19 k rfl rfl rfl hc8 rfl rfl rfl rfl) rfl fun w9 => ?_
    refine go tv19 1 rfl rfl trivial ?_
    refine ef (alloc tv19 0 rfl rfl rfl rfl fun b10 => ?_)
    refine go tv19 1 rfl rfl trivial ?_
    refine ef (storeA tv19 rfl rfl rfl rfl rfl rfl rfl rfl rfl rfl ?_)
    refine go tv19 3 rfl rfl trivial ?_
    refine any [1, 2, 3, 4, 5, 6] 6 mixd rfl ?_
    refine gov tv19 [0, 1, 2] 3 rfl (by kernel_rfl) rfl rfl trivial ?_
    refine vq 3 (lshi tv19 k rfl rfl rfl rfl rfl (fun _ => rfl) rfl (by omega)) rfl (by kernel_rfl) rfl fun w11 => ?_
    refine vcall 4 rfl (by kernel_rfl) (r9_Pair _ _) rfl rfl fun w12 => ?_
    have := pairErr_r c7 (h.take k)
    refine gov tv19 [5] 0 rfl (by kernel_rfl) rfl rfl trivial ?_
    refine vdone (by kernel_rfl) ?_
    refine go tv19 7 rfl rfl trivial ?_
    refine cnd rfl (fun h13 => ?_) (fun h13 => ?_)
    · have h14 := not_t h13
      have p15 := df h14
      refine go tv19 12 rfl rfl trivial ?_
      refine rt1 rfl rfl ?_
      refine ple ?_
      unfold headE
      rw [if_neg (by omega), hk2, dropE hc8]
      simp only [headGo]
      rw [if_pos (by omega)]
    have h16 := not_f h13
    have p17 := dt h16
    refine go tv19 7 rfl rfl ⟨(by omega), trivial⟩ ?_
    refine next (k + 1) rfl rfl ⟨rfl, trivial⟩ trivial ?_ ?_
    · omega
    refine ⟨by omega, ?_⟩
    rw [hk2, dropE hc8, takeE hc8]
    simp only [headGo]
    rw [if_neg (by omega)]
  have p18 := df h5
  refine go tv19 11 rfl rfl trivial ?_
  refine rt1 rfl rfl ?_
  refine ple ?_
  unfold headE
  rw [if_neg (by omega), hk2, List.drop_of_length_le (by omega)]
  rfl
end Go.SW.V
set_option linter.unusedVariables false
set_option maxRecDepth 100000
set_option maxHeartbeats 4000000
namespace Go.SW.V
open Go.SW Go.Proofs
theorem cb65 : Callable Tryz.prog 65 := callable_of Tryz.func65 (by kernel_rfl) (by kernel_rfl)
def tbv20 : Tb := [(5, ⟨.int .u8, 1, 1, [.int .u8 0]⟩),
  (9, ⟨.str, 1, 16, [.str []]⟩),
  (27, ⟨.int .u64, 1, 8, [.int .u64 0]⟩),
  (44, ⟨.agg [(0, 1), (1, 1), (2, 1)], 3, 40, [.str [], .int .u8 0, .str []]⟩),
  (46, ⟨.agg [(0, 1), (1, 1), (2, 1), (3, 1)], 4, 48, [.str [], .int .u64 0, .int .u64 0, .str []]⟩),
  (47, ⟨.slc 199, 1, 24, [.sl Pair.pc []]⟩),
  (49, ⟨.agg [(0, 1), (1, 1), (2, 1), (3, 1), (4, 1), (5, 1)], 6, 88, [.str [], .str [], .bool false, .str [], .sl Pair.pc [], .bool false]⟩),
  (51, ⟨.agg [(0, 1), (1, 1), (2, 1), (3, 1), (4, 1), (5, 1), (6, 1)], 7, 96, [.int .u64 0, .str [], .str [], .sl Pair.pc [], .str [], .int .u64 0, .int .u8 0]⟩),
  (53, ⟨.agg [(0, 1), (1, 1), (2, 3), (5, 4), (9, 6), (15, 1), (16, 1), (17, 1), (18, 1), (19, 1), (20, 1), (21, 7), (28, 1)], 29, 344, [.int .u8 0, .int .u64 0, .str [], .int .u8 0, .str [], .str [], .int .u64 0, .int .u64 0, .str [], .str [], .str [], .bool false, .str [], .sl Pair.pc [], .bool false, .str [], .int .u64 0, .int .u8 0, .int .u8 0, .int .u8 0, .int .u64 0, .int .u64 0, .str [], .str [], .sl Pair.pc [], .str [], .int .u64 0, .int .u8 0, .str []]⟩),
  (137, ⟨.agg [(0, 1), (1, 1), (2, 1), (3, 1), (4, 1), (5, 1), (6, 7)], 13, 144, [.int .u8 0, .int .u8 0, .int .u64 0, .int .u64 0, .bool false, .str [], .int .u64 0, .str [], .str [], .sl Pair.pc [], .str [], .int .u64 0, .int .u8 0]⟩),
  (167, ⟨.agg [(0, 1), (1, 1), (2, 1), (3, 1), (4, 1), (5, 1), (6, 7)], 13, 144, [.int .u8 0, .int .u8 0, .int .u64 0, .int .u64 0, .bool false, .str [], .int .u64 0, .str [], .str [], .sl Pair.pc [], .str [], .int .u64 0, .int .u8 0]⟩),
  (182, ⟨.agg [(0, 1), (1, 1), (2, 1), (3, 1), (4, 1), (5, 1)], 6, 88, [.str [], .str [], .bool false, .str [], .sl Pair.pc [], .bool false]⟩),
  (184, ⟨.agg [(0, 1), (1, 1), (2, 3), (5, 4), (9, 6), (15, 1), (16, 1), (17, 1), (18, 1), (19, 1), (20, 1), (21, 7), (28, 1)], 29, 344, [.int .u8 0, .int .u64 0, .str [], .int .u8 0, .str [], .str [], .int .u64 0, .int .u64 0, .str [], .str [], .str [], .bool false, .str [], .sl Pair.pc [], .bool false, .str [], .int .u64 0, .int .u8 0, .int .u8 0, .int .u8 0, .int .u64 0, .int .u64 0, .str [], .str [], .sl Pair.pc [], .str [], .int .u64 0, .int .u8 0, .str []]⟩),
  (199, ⟨.agg [(0, 1), (1, 1), (2, 1), (3, 1)], 4, 48, [.str [], .int .u8 0, .int .i64 0, .str []]⟩)]
theorem tv20 : tbB Tryz.prog tbv20 = true := by kernel_rfl
theorem l09_Light (h : List Pair) : Fn Tryz.prog gb 65 [.sl Pair.pc h] (.bool (lightH h)) := by
  refine fn_cw tv20 Tryz.func65 rfl Tryz.ntmps65 rfl cb65 rfl rfl fun w N H hG => ?_
  have h_l : h.length ≤ 140737488355328 := w.1.1
  refine go tv20 13 rfl rfl trivial ?_
  refine cnd rfl (fun h1 => ?_) (fun h1 => ?_)
  · have p2 := dt h1
    refine go tv20 7 rfl rfl trivial ?_
    refine rt1 rfl rfl ?_
    refine ple ?_
    exact congrArg PV.bool (by simp [lightH]; omega)
  have p3 := df h1
  refine go tv20 11 rfl rfl trivial ?_
  refine loop (ι := Nat) [0, 5, 6, 7, 8, 9] [] (fun k => [(10, .int .i64 (k : Int))]) (fun k => []) (fun k => k ≤ h.length ∧ h.all lightP = (h.drop k).all lightP) (fun k => h.length - k) 0 ⟨rfl, trivial⟩ trivial ?_ ?_
  · exact ⟨Nat.zero_le _, rfl⟩
  rintro k hp4
  obtain ⟨hk1, hk2⟩ := hp4
  refine go tv20 6 rfl rfl trivial ?_
  refine cnd rfl (fun h5 => ?_) (fun h5 => ?_)
  · have p6 := dt h5
    obtain ⟨c7, hc8⟩ := getE (xs := h) (m := k) (by omega)
    have c7_w := Pair.pwf (w.1.2 c7 (List.mem_of_getElem? hc8))
    refine go tv20 6 rfl rfl trivial ?_
    refine q1 (qidx tv20 k rfl rfl rfl hc8 rfl rfl rfl rfl) rfl fun w9 => ?_
    refine go tv20 1 rfl rfl trivial ?_
    refine ef (alloc tv20 0 rfl rfl rfl rfl fun b10 => ?_)
    refine ef (storeA tv20 rfl rfl rfl rfl rfl rfl rfl rfl rfl rfl ?_)
    refine go tv20 16 rfl rfl ⟨(fun hc => hc), (fun hc => hc), (fun hc => hc), rfl, rfl, trivial⟩ ?_
    refine cnd rfl (fun h11 => ?_) (fun h11 => ?_)
    · refine go tv20 11 rfl rfl trivial ?_
      refine rt1 rfl rfl ?_
      refine ple ?_
      exact congrArg PV.bool (by unfold lightH; rw [all_miss hk2 (dropE hc8) (by simp [lightP]; first | omega | grind)]; simp)
    have h12 := orl h11
    have p13 := df h12
    have h14 := orr h11
    have p15 := df h14
    refine go tv20 7 rfl rfl ⟨(by omega), trivial⟩ ?_
    refine next (k + 1) rfl rfl ⟨rfl, trivial⟩ trivial ?_ ?_
    · omega
    exact ⟨by omega, all_step hk2 (dropE hc8) (by simp [lightP]; omega)⟩
  have p16 := df h5
  refine go tv20 11 rfl rfl trivial ?_
  refine rt1 rfl rfl ?_
  refine ple ?_
  exact congrArg PV.bool (by unfold lightH; rw [all_end hk2 (by omega)]; simp; omega)
end Go.SW.V
set_option linter.unusedVariables false
set_option maxRecDepth 100000
set_option maxHeartbeats 4000000
namespace Go.SW.V
open Go.SW Go.Proofs
end Go.SW.V
set_option linter.unusedVariables false
set_option maxRecDepth 100000
set_option maxHeartbeats 4000000
namespace Go.SW.V
open Go.SW Go.Proofs
theorem cb226 : Callable Tryz.prog 226 := callable_of Tryz.func226 (by kernel_rfl) (by kernel_rfl)
theorem cb227 : Callable Tryz.prog 227 := callable_of Tryz.func227 (by kernel_rfl) (by kernel_rfl)
theorem cb249 : Callable Tryz.prog 249 := callable_of Tryz.func249 (by kernel_rfl) (by kernel_rfl)
theorem cb288 : Callable Tryz.prog 288 := callable_of Tryz.func288 (by kernel_rfl) (by kernel_rfl)
def tbv22 : Tb := [(4, ⟨.bool, 1, 1, [.bool false]⟩),
  (5, ⟨.int .u8, 1, 1, [.int .u8 0]⟩),
  (9, ⟨.str, 1, 16, [.str []]⟩),
  (47, ⟨.slc 199, 1, 24, [.sl Pair.pc []]⟩),
  (199, ⟨.agg [(0, 1), (1, 1), (2, 1), (3, 1)], 4, 48, [.str [], .int .u8 0, .int .i64 0, .str []]⟩),
  (322, ⟨.agg [(0, 1), (1, 1), (2, 1), (3, 1)], 4, 56, [.int .u8 0, .str [], .sl Pair.pc [], .bool false]⟩)]
theorem tv22 : tbB Tryz.prog tbv22 = true := by kernel_rfl
theorem rule_Check (r : Rule) : Fn Tryz.prog gb 226 [.agg (Rule.pc r)] (.int .i64 (ruleE r)) := by
  refine fn_cw tv22 Tryz.func226 rfl Tryz.ntmps226 rfl cb226 rfl rfl fun w N H hG => ?_
  have r_w := Rule.pwf w.1
  have r_w' := r_w
  simp only [Rule.wf] at r_w'
  have r_want_k := Rule.kd2 w.1
  have r_want_k2 : r.want.length ≤ 140737488355328 := w.1.2.2.1.1
  refine go tv22 2 rfl rfl trivial ?_
  refine ef (boxA 0 rfl rfl rfl fun b1 => ?_)
  refine go tv22 18 rfl rfl trivial ?_
  refine cnd rfl (fun h2 => ?_) (fun h2 => ?_)
  · have p3 := dt h2
    refine go tv22 8 rfl rfl trivial ?_
    refine rt1 rfl rfl ?_
    refine ple ?_
    refine congrArg (PV.int .i64) ?_
    (try simp only [Bool.or_eq_true, Bool.and_eq_true, Bool.not_eq_true', decide_eq_true_eq, Bool.or_eq_false_iff, Bool.and_eq_false_iff, Bool.not_eq_false', decide_eq_false_iff_not, beq_iff_eq, beq_eq_false_iff_ne] at *)
    unfold ruleE
    repeat (first | rw [if_pos (by omega)] | rw [if_neg (by omega)])
    all_goals first | done | rfl | omega
  have p4 := df h2
  refine go tv22 8 rfl rfl trivial ?_
  refine cnd rfl (fun h5 => ?_) (fun h5 => ?_)
  · have p6 := dt h5
    refine go tv22 3 rfl rfl trivial ?_
    refine call (words_Key _) rfl rfl fun w7 => ?_
    refine go tv22 11 rfl rfl trivial ?_
    refine cnd rfl (fun h8 => ?_) (fun h8 => ?_)
    · have h9 := not_t h8
      have p10 := df h9
      refine go tv22 8 rfl rfl trivial ?_
      refine rt1 rfl rfl ?_
      refine ple ?_
      refine congrArg (PV.int .i64) ?_
      (try simp only [Bool.or_eq_true, Bool.and_eq_true, Bool.not_eq_true', decide_eq_true_eq, Bool.or_eq_false_iff, Bool.and_eq_false_iff, Bool.not_eq_false', decide_eq_false_iff_not, beq_iff_eq, beq_eq_false_iff_ne] at *)
      unfold ruleE
      repeat (first | rw [if_pos (by omega)] | rw [if_neg (by omega)])
      all_goals first | done | rfl | omega
    have h11 := not_f h8
    have p12 := dt h11
    refine go tv22 6 rfl rfl trivial ?_
    refine call (head_Check _) rfl rfl fun w13 => ?_
    refine go tv22 4 rfl rfl trivial ?_
    refine rt1 rfl rfl ?_
    refine ple ?_
    refine congrArg (PV.int .i64) ?_
    (try simp only [Bool.or_eq_true, Bool.and_eq_true, Bool.not_eq_true', decide_eq_true_eq, Bool.or_eq_false_iff, Bool.and_eq_false_iff, Bool.not_eq_false', decide_eq_false_iff_not, beq_iff_eq, beq_eq_false_iff_ne] at *)
    unfold ruleE
    repeat (first | rw [if_pos (by omega)] | rw [if_neg (by omega)])
    all_goals first | done | rfl | omega
  have p14 := df h5
  refine go tv22 3 rfl rfl trivial ?_
  refine call (words_Pattern _) rfl rfl fun w15 => ?_
  refine go tv22 11 rfl rfl trivial ?_
  refine cnd rfl (fun h16 => ?_) (fun h16 => ?_)
  · have h17 := not_t h16
    have p18 := df h17
    refine go tv22 8 rfl rfl trivial ?_
    refine rt1 rfl rfl ?_
    refine ple ?_
    refine congrArg (PV.int .i64) ?_
    (try simp only [Bool.or_eq_true, Bool.and_eq_true, Bool.not_eq_true', decide_eq_true_eq, Bool.or_eq_false_iff, Bool.and_eq_false_iff, Bool.not_eq_false', decide_eq_false_iff_not, beq_iff_eq, beq_eq_false_iff_ne] at *)
    unfold ruleE
    repeat (first | rw [if_pos (by omega)] | rw [if_neg (by omega)])
    all_goals first | done | rfl | omega
  have h19 := not_f h16
  have p20 := dt h19
  refine go tv22 6 rfl rfl trivial ?_
  refine call (head_Check _) rfl rfl fun w21 => ?_
  refine go tv22 4 rfl rfl trivial ?_
  refine rt1 rfl rfl ?_
  refine ple ?_
  refine congrArg (PV.int .i64) ?_
  (try simp only [Bool.or_eq_true, Bool.and_eq_true, Bool.not_eq_true', decide_eq_true_eq, Bool.or_eq_false_iff, Bool.and_eq_false_iff, Bool.not_eq_false', decide_eq_false_iff_not, beq_iff_eq, beq_eq_false_iff_ne] at *)
  unfold ruleE
  repeat (first | rw [if_pos (by omega)] | rw [if_neg (by omega)])
  all_goals first | done | rfl | omega
theorem rule_heads (r : Rule) (h : List Pair) : Fn Tryz.prog gb 249 [.agg (Rule.pc r), .sl Pair.pc h] (.bool (headsGo r.all h r.want)) := by
  refine fn_cw tv22 Tryz.func249 rfl Tryz.ntmps249 rfl cb249 rfl rfl fun w N H hG => ?_
  have r_want_l : r.want.length ≤ 140737488355328 := w.1.2.2.1.1
  have h_l : h.length ≤ 140737488355328 := w.2.1.1
  refine go tv22 2 rfl rfl trivial ?_
  refine ef (boxA 0 rfl rfl rfl fun b1 => ?_)
  refine go tv22 17 rfl rfl trivial ?_
  refine loop (ι := Nat) [0, 1, 2, 10, 11, 12] [0] (fun k => [(13, .int .i64 (k : Int))]) (fun k => []) (fun k => k ≤ r.want.length ∧ headsGo r.all h r.want = headsGo r.all h (r.want.drop k)) (fun k => r.want.length - k) 0 ⟨rfl, trivial⟩ trivial ?_ ?_
  · exact ⟨Nat.zero_le _, rfl⟩
  rintro k hp2
  obtain ⟨hk1, hk2⟩ := hp2
  refine go tv22 6 rfl rfl trivial ?_
  refine cnd rfl (fun h3 => ?_) (fun h3 => ?_)
  · have p4 := dt h3
    obtain ⟨c5, hc6⟩ := getE (xs := r.want) (m := k) (by omega)
    have c5_w := Pair.pwf (w.1.2.2.1.2 c5 (List.mem_of_getElem? hc6))
    refine go tv22 6 rfl rfl trivial ?_
    refine q1 (qidx tv22 k rfl rfl rfl hc6 rfl rfl rfl rfl) rfl fun w7 => ?_
    refine go tv22 1 rfl rfl trivial ?_
    refine ef (alloc tv22 1 rfl rfl rfl rfl fun b8 => ?_)
    refine ef (storeA tv22 rfl rfl rfl rfl rfl rfl rfl rfl rfl rfl ?_)
    refine go tv22 7 rfl rfl trivial ?_
    refine call (head_Find _ _) rfl rfl fun w9 => ?_
    refine go tv22 3 rfl rfl trivial ?_
    refine ef (alloc tv22 2 rfl rfl rfl rfl fun b10 => ?_)
    refine ef (storeA tv22 rfl rfl rfl rfl rfl rfl rfl rfl rfl rfl ?_)
    refine go tv22 9 rfl rfl trivial ?_
    refine q1g [26, 27] rfl (fun hc => saeq rfl rfl eqg199 (veq199 ((findP h c5.key).getD Pair.zero) c5)) ⟨(fun hc => hc), (fun hc => hc), trivial⟩ rfl rfl rfl fun _ => ?_
    refine go tv22 15 rfl rfl ⟨rfl, rfl, (fun hc => hc), rfl, rfl, trivial⟩ ?_
    refine cnd rfl (fun h11 => ?_) (fun h11 => ?_)
    · have h12 := bl h11
      have h13 := bl h12
      have h14 := br h12
      have p15 := dt h14
      have h16 := br h11
      refine go tv22 8 rfl rfl ⟨(by omega), trivial⟩ ?_
      refine next (k + 1) rfl rfl ⟨rfl, trivial⟩ trivial ?_ ?_
      · omega
      refine ⟨by omega, ?_⟩
      rw [hk2, dropE hc6]
      simp only [headsGo]
      first | (simp only [hasP]; simp [*]; done) | (unfold hasP; simp_all; done) | (unfold hasP; grind)
    refine go tv22 6 rfl rfl trivial ?_
    refine cnd rfl (fun h17 => ?_) (fun h17 => ?_)
    · have h18 := bl h17
      have h19 := br h17
      have p20 := dt h19
      refine go tv22 13 rfl rfl trivial ?_
      refine rt1 rfl rfl ?_
      refine ple ?_
      refine congrArg PV.bool ?_
      rw [hk2, dropE hc6]
      simp only [headsGo]
      first | (simp only [hasP]; simp [*]; done) | (unfold hasP; simp_all; done) | (unfold hasP; grind)
    refine go tv22 7 rfl rfl trivial ?_
    refine cnd rfl (fun h21 => ?_) (fun h21 => ?_)
    · refine go tv22 13 rfl rfl trivial ?_
      refine rt1 rfl rfl ?_
      refine ple ?_
      refine congrArg PV.bool ?_
      rw [hk2, dropE hc6]
      simp only [headsGo]
      first | (simp only [hasP]; simp [*]; done) | (unfold hasP; simp_all; done) | (unfold hasP; grind)
    refine go tv22 8 rfl rfl ⟨(by omega), trivial⟩ ?_
    refine next (k + 1) rfl rfl ⟨rfl, trivial⟩ trivial ?_ ?_
    · omega
    refine ⟨by omega, ?_⟩
    rw [hk2, dropE hc6]
    simp only [headsGo]
    first | (simp only [hasP]; simp [*]; done) | (unfold hasP; simp_all; done) | (unfold hasP; grind)
  have p22 := df h3
  refine go tv22 14 rfl rfl trivial ?_
  refine rt1 rfl rfl ?_
  refine ple ?_
  refine congrArg PV.bool ?_
  rw [hk2, List.drop_of_length_le (by omega)]
  rfl
theorem rule_Goes (r : Rule) (key : Bs) (h : List Pair) (hrk : r.key.length < 4294967281) (hk : key.length < 4294967281) : Fn Tryz.prog gb 227 [.agg (Rule.pc r), .str key, .sl Pair.pc h] (.bool (goesR r key h)) := by
  refine fn_cw tv22 Tryz.func227 rfl Tryz.ntmps227 rfl cb227 rfl rfl fun w N H hG => ?_
  have r_want_l : r.want.length ≤ 140737488355328 := w.1.2.2.1.1
  have key_l : key.length ≤ 9223372036854775807 := w.2.1
  have h_l : h.length ≤ 140737488355328 := w.2.2.1.1
  refine go tv22 2 rfl rfl trivial ?_
  refine ef (boxA 0 rfl rfl rfl fun b1 => ?_)
  refine go tv22 17 rfl rfl trivial ?_
  refine cnd rfl (fun h2 => ?_) (fun h2 => ?_)
  · have p3 := dt h2
    refine go tv22 12 rfl rfl trivial ?_
    refine rt1 rfl rfl ?_
    refine ple ?_
    refine congrArg PV.bool ?_
    first | (simp [goesR, *]; done) | (simp [goesR, *]; omega)
  have p4 := df h2
  refine go tv22 6 rfl rfl trivial ?_
  refine cnd rfl (fun h5 => ?_) (fun h5 => ?_)
  · have p6 := dt h5
    refine go tv22 5 rfl rfl trivial ?_
    refine call (words_Matches _ _ (by first | omega | (simp; done) | decide) (by first | omega | (simp; done) | decide)) rfl rfl fun w7 => ?_
    refine go tv22 6 rfl rfl trivial ?_
    refine rt1 rfl rfl ?_
    refine ple ?_
    refine congrArg PV.bool ?_
    first | (simp [goesR, *]; done) | (simp [goesR, *]; omega)
  have p8 := df h5
  refine go tv22 6 rfl rfl trivial ?_
  refine cnd rfl (fun h9 => ?_) (fun h9 => ?_)
  · have p10 := dt h9
    refine go tv22 4 rfl rfl trivial ?_
    refine call (rule_heads _ _) rfl rfl fun w11 => ?_
    refine go tv22 6 rfl rfl trivial ?_
    refine rt1 rfl rfl ?_
    refine ple ?_
    refine congrArg PV.bool ?_
    first | (simp [goesR, *]; done) | (simp [goesR, *]; omega)
  have p12 := df h9
  refine go tv22 9 rfl rfl trivial ?_
  refine rt1 rfl rfl ?_
  refine ple ?_
  refine congrArg PV.bool ?_
  first | (simp [goesR, *]; done) | (simp [goesR, *]; omega)
theorem match_Same (a : Rule) (b : Rule) : Fn Tryz.prog gb 288 [.agg (Rule.pc a), .agg (Rule.pc b)] (.bool (decide (a = b))) := by
  refine fn_cw tv22 Tryz.func288 rfl Tryz.ntmps288 rfl cb288 rfl rfl fun w N H hG => ?_
  have a_want_l : a.want.length ≤ 140737488355328 := w.1.2.2.1.1
  have b_want_l : b.want.length ≤ 140737488355328 := w.2.1.2.2.1.1
  refine go tv22 2 rfl rfl trivial ?_
  refine ef (boxA 0 rfl rfl rfl fun b1 => ?_)
  refine ef (boxA 1 rfl rfl rfl fun b2 => ?_)
  refine go tv22 29 rfl rfl ⟨(fun hc => hc), (fun hc => hc), (fun hc => hc), (fun hc => hc), rfl, rfl, (fun hc => hc), (fun hc => hc), (fun hc => hc), (fun hc => hc), rfl, rfl, (fun hc => hc), (fun hc => hc), trivial⟩ ?_
  refine callg rfl (fun hc => (eq_Pair _ _)) rfl ⟨(fun hc => hc), (fun hc => hc), trivial⟩ rfl rfl fun _ => ?_
  refine go tv22 5 rfl rfl ⟨rfl, rfl, trivial⟩ ?_
  refine rt1 rfl rfl ?_
  refine ple ?_
  exact congrArg PV.bool (by rw [Bool.eq_iff_iff]; first | (simp [Rule.eq_iff, and_assoc]; done) | (simp [Rule.eq_iff]; grind))
end Go.SW.V
set_option linter.unusedVariables false
set_option maxRecDepth 100000
set_option maxHeartbeats 4000000
namespace Go.SW.V
open Go.SW Go.Proofs
theorem cb259 : Callable Tryz.prog 259 := callable_of Tryz.func259 (by kernel_rfl) (by kernel_rfl)
theorem cb266 : Callable Tryz.prog 266 := callable_of Tryz.func266 (by kernel_rfl) (by kernel_rfl)
theorem cb267 : Callable Tryz.prog 267 := callable_of Tryz.func267 (by kernel_rfl) (by kernel_rfl)
theorem cb283 : Callable Tryz.prog 283 := callable_of Tryz.func283 (by kernel_rfl) (by kernel_rfl)
theorem cb289 : Callable Tryz.prog 289 := callable_of Tryz.func289 (by kernel_rfl) (by kernel_rfl)
def tbv23 : Tb := [(5, ⟨.int .u8, 1, 1, [.int .u8 0]⟩),
  (9, ⟨.str, 1, 16, [.str []]⟩),
  (44, ⟨.agg [(0, 1), (1, 1), (2, 1)], 3, 40, [.str [], .int .u8 0, .str []]⟩),
  (200, ⟨.slc 9, 1, 24, [.sl strc []]⟩),
  (339, ⟨.slc 44, 1, 24, [.sl ShopR.pc []]⟩),
  (342, ⟨.agg [(0, 1), (1, 1)], 2, 48, [.sl ShopR.pc [], .sl BindR.pc []]⟩)]
theorem tv23 : tbB Tryz.prog tbv23 = true := by kernel_rfl
theorem eq_Str (a : List Bs) (b : List Bs) : Fn Tryz.prog gb 259 [.sl strc a, .sl strc b] (.bool (decide (a = b))) := by
  refine fn_cw tv23 Tryz.func259 rfl Tryz.ntmps259 rfl cb259 rfl rfl fun w N H hG => ?_
  have a_l : a.length ≤ 140737488355328 := w.1.1
  have b_l : b.length ≤ 140737488355328 := w.2.1.1
  refine go tv23 15 rfl rfl trivial ?_
  refine cnd rfl (fun h1 => ?_) (fun h1 => ?_)
  · have h2 := not_t h1
    have p3 := df h2
    refine go tv23 7 rfl rfl trivial ?_
    refine rt1 rfl rfl ?_
    refine ple ?_
    exact congrArg PV.bool (eqL_len (by assumption)).symm
  have h4 := not_f h1
  have p5 := dt h4
  refine go tv23 11 rfl rfl trivial ?_
  refine loop (ι := Nat) [0, 1, 6, 7, 8, 9, 10, 11, 12] [] (fun k => [(13, .int .i64 (k : Int))]) (fun k => []) (fun k => k ≤ a.length ∧ decide (a = b) = decide (a.drop k = b.drop k)) (fun k => a.length - k) 0 ⟨rfl, trivial⟩ trivial ?_ ?_
  · exact ⟨Nat.zero_le _, rfl⟩
  rintro k hp6
  obtain ⟨hk1, hk2⟩ := hp6
  refine go tv23 6 rfl rfl trivial ?_
  refine cnd rfl (fun h7 => ?_) (fun h7 => ?_)
  · have p8 := dt h7
    refine go tv23 11 rfl rfl trivial ?_
    refine any [0, 1, 2, 3, 4, 5] 9 mixd rfl ?_
    refine gov tv23 [0, 1] 7 rfl (by kernel_rfl) rfl rfl trivial ?_
    obtain ⟨c9, hc10⟩ := getE (xs := a) (m := k) (by omega)
    have c9_l : c9.length ≤ 9223372036854775807 := (w.1.2 c9 (List.mem_of_getElem? hc10)).1
    refine vq 2 (qidx tv23 k rfl rfl rfl hc10 rfl rfl rfl rfl) rfl (by kernel_rfl) rfl fun w11 => ?_
    refine gov tv23 [3, 4, 5] 3 rfl (by kernel_rfl) rfl rfl trivial ?_
    obtain ⟨c12, hc13⟩ := getE (xs := b) (m := k) (by omega)
    have c12_l : c12.length ≤ 9223372036854775807 := (w.2.1.2 c12 (List.mem_of_getElem? hc13)).1
    refine vq 6 (qidx tv23 k rfl rfl rfl hc13 rfl rfl rfl rfl) rfl (by kernel_rfl) rfl fun w14 => ?_
    refine gov tv23 [7, 8] 0 rfl (by kernel_rfl) rfl rfl trivial ?_
    refine vdone (by kernel_rfl) ?_
    refine go tv23 1 rfl rfl trivial ?_
    refine cnd rfl (fun h15 => ?_) (fun h15 => ?_)
    · have h16 := not_t h15
      have p17 := df h16
      refine go tv23 11 rfl rfl trivial ?_
      refine rt1 rfl rfl ?_
      refine ple ?_
      exact congrArg PV.bool (eqL_miss hk2 (dropE hc10) (dropE hc13) (by assumption)).symm
    have h18 := not_f h15
    have p19 := dt h18
    refine go tv23 7 rfl rfl ⟨(by omega), trivial⟩ ?_
    refine next (k + 1) rfl rfl ⟨rfl, trivial⟩ trivial ?_ ?_
    · omega
    exact ⟨by omega, eqL_step hk2 (dropE hc10) (dropE hc13) (by assumption)⟩
  have p20 := df h7
  refine go tv23 11 rfl rfl trivial ?_
  refine rt1 rfl rfl ?_
  refine ple ?_
  exact congrArg PV.bool (eqL_end hk2 (by omega) (by omega)).symm
theorem index_Str (l : List Bs) (x : Bs) : Fn Tryz.prog gb 289 [.sl strc l, .str x] (.int .i64 (idxP (fun y => decide (x = y)) l)) := by
  refine fn_cw tv23 Tryz.func289 rfl Tryz.ntmps289 rfl cb289 rfl rfl fun w N H hG => ?_
  have l_l : l.length ≤ 140737488355328 := w.1.1
  have x_l : x.length ≤ 9223372036854775807 := w.2.1
  refine go tv23 14 rfl rfl trivial ?_
  refine loop (ι := Nat) [0, 1, 6, 7] [] (fun k => [(8, .int .i64 (k : Int))]) (fun k => []) (fun k => k ≤ l.length ∧ idxP (fun y => decide (x = y)) l = idxF (fun y => decide (x = y)) k (l.drop k)) (fun k => l.length - k) 0 ⟨rfl, trivial⟩ trivial ?_ ?_
  · exact ⟨Nat.zero_le _, rfl⟩
  rintro k hp1
  obtain ⟨hik1, hik2⟩ := hp1
  refine go tv23 6 rfl rfl trivial ?_
  refine cnd rfl (fun h2 => ?_) (fun h2 => ?_)
  · have p3 := dt h2
    obtain ⟨c4, hc5⟩ := getE (xs := l) (m := k) (by omega)
    have c4_l : c4.length ≤ 9223372036854775807 := (w.1.2 c4 (List.mem_of_getElem? hc5)).1
    refine go tv23 15 rfl rfl trivial ?_
    refine q1 (qidx tv23 k rfl rfl rfl hc5 rfl rfl rfl rfl) rfl fun w6 => ?_
    refine go tv23 4 rfl rfl trivial ?_
    refine cnd rfl (fun h7 => ?_) (fun h7 => ?_)
    · have p8 := dt h7
      refine go tv23 12 rfl rfl trivial ?_
      refine rt1 rfl rfl ?_
      refine ple ?_
      exact congrArg (PV.int .i64) (idx_hit hik2 (dropE hc5) (by first | assumption | (simp [*]; done))).symm
    have p9 := df h7
    refine go tv23 7 rfl rfl ⟨(by omega), trivial⟩ ?_
    refine next (k + 1) rfl rfl ⟨rfl, trivial⟩ trivial ?_ ?_
    · omega
    exact ⟨by omega, idx_miss hik2 (dropE hc5) (by assumption)⟩
  have p10 := df h2
  refine go tv23 11 rfl rfl trivial ?_
  refine rt1 rfl rfl ?_
  refine ple ?_
  exact congrArg (PV.int .i64) (idx_end hik2 (by omega)).symm
theorem contains_Str (l : List Bs) (x : Bs) : Fn Tryz.prog gb 283 [.sl strc l, .str x] (.bool (decide (x ∈ l))) := by
  refine fn_cw tv23 Tryz.func283 rfl Tryz.ntmps283 rfl cb283 rfl rfl fun w N H hG => ?_
  have l_l : l.length ≤ 140737488355328 := w.1.1
  have x_l : x.length ≤ 9223372036854775807 := w.2.1
  refine go tv23 9 rfl rfl trivial ?_
  refine call (index_Str _ _) rfl rfl fun w1 => ?_
  have := idxP_r (fun y => decide (x = y)) l
  refine go tv23 5 rfl rfl trivial ?_
  refine rt1 rfl rfl ?_
  refine ple ?_
  refine congrArg PV.bool ?_
  rw [Bool.eq_iff_iff, decide_eq_true_eq, decide_eq_true_eq, idxP_any]
  simp
theorem shop_check (x : ShopR) : Fn Tryz.prog gb 266 [.agg (ShopR.pc x)] (.int .i64 (shopE x)) := by
  refine fn_cw tv23 Tryz.func266 rfl Tryz.ntmps266 rfl cb266 rfl rfl fun w N H hG => ?_
  refine go tv23 2 rfl rfl trivial ?_
  refine ef (boxA 0 rfl rfl rfl fun b1 => ?_)
  refine go tv23 8 rfl rfl trivial ?_
  refine call (words_Name _) rfl rfl fun w2 => ?_
  refine go tv23 9 rfl rfl trivial ?_
  refine cnd rfl (fun h3 => ?_) (fun h3 => ?_)
  · have h4 := not_t h3
    have p5 := df h4
    refine go tv23 8 rfl rfl trivial ?_
    refine rt1 rfl rfl ?_
    refine ple ?_
    refine congrArg (PV.int .i64) ?_
    simp only [Bool.or_eq_true, Bool.and_eq_true, Bool.not_eq_true', decide_eq_true_eq, Bool.or_eq_false_iff, Bool.and_eq_false_iff, Bool.not_eq_false', decide_eq_false_iff_not, beq_iff_eq, beq_eq_false_iff_ne] at *
    unfold shopE
    (repeat' split) <;> first | rfl | (exfalso; omega) | (exfalso; simp_all; done) | (exfalso; simp_all; omega) | grind
  have h6 := not_f h3
  have p7 := dt h6
  refine go tv23 12 rfl rfl trivial ?_
  refine cnd rfl (fun h8 => ?_) (fun h8 => ?_)
  · have p9 := dt h8
    refine go tv23 8 rfl rfl trivial ?_
    refine rt1 rfl rfl ?_
    refine ple ?_
    refine congrArg (PV.int .i64) ?_
    simp only [Bool.or_eq_true, Bool.and_eq_true, Bool.not_eq_true', decide_eq_true_eq, Bool.or_eq_false_iff, Bool.and_eq_false_iff, Bool.not_eq_false', decide_eq_false_iff_not, beq_iff_eq, beq_eq_false_iff_ne] at *
    unfold shopE
    (repeat' split) <;> first | rfl | (exfalso; omega) | (exfalso; simp_all; done) | (exfalso; simp_all; omega) | grind
  have p10 := df h8
  refine go tv23 8 rfl rfl trivial ?_
  refine cnd rfl (fun h11 => ?_) (fun h11 => ?_)
  · have p12 := dt h11
    refine go tv23 4 rfl rfl trivial ?_
    refine call (words_Name _) rfl rfl fun w13 => ?_
    refine go tv23 6 rfl rfl trivial ?_
    refine rt1 rfl rfl ?_
    refine ple ?_
    refine congrArg (PV.int .i64) ?_
    simp only [Bool.or_eq_true, Bool.and_eq_true, Bool.not_eq_true', decide_eq_true_eq, Bool.or_eq_false_iff, Bool.and_eq_false_iff, Bool.not_eq_false', decide_eq_false_iff_not, beq_iff_eq, beq_eq_false_iff_ne] at *
    unfold shopE
    (repeat' split) <;> first | rfl | (exfalso; omega) | (exfalso; simp_all; done) | (exfalso; simp_all; omega) | grind
  have p14 := df h11
  refine go tv23 8 rfl rfl trivial ?_
  refine cnd rfl (fun h15 => ?_) (fun h15 => ?_)
  · have h16 := not_t h15
    have p17 := df h16
    refine go tv23 8 rfl rfl trivial ?_
    refine rt1 rfl rfl ?_
    refine ple ?_
    refine congrArg (PV.int .i64) ?_
    simp only [Bool.or_eq_true, Bool.and_eq_true, Bool.not_eq_true', decide_eq_true_eq, Bool.or_eq_false_iff, Bool.and_eq_false_iff, Bool.not_eq_false', decide_eq_false_iff_not, beq_iff_eq, beq_eq_false_iff_ne] at *
    unfold shopE
    (repeat' split) <;> first | rfl | (exfalso; omega) | (exfalso; simp_all; done) | (exfalso; simp_all; omega) | grind
  have h18 := not_f h15
  have p19 := dt h18
  refine go tv23 9 rfl rfl trivial ?_
  refine rt1 rfl rfl ?_
  refine ple ?_
  refine congrArg (PV.int .i64) ?_
  simp only [Bool.or_eq_true, Bool.and_eq_true, Bool.not_eq_true', decide_eq_true_eq, Bool.or_eq_false_iff, Bool.and_eq_false_iff, Bool.not_eq_false', decide_eq_false_iff_not, beq_iff_eq, beq_eq_false_iff_ne] at *
  unfold shopE
  (repeat' split) <;> first | rfl | (exfalso; omega) | (exfalso; simp_all; done) | (exfalso; simp_all; omega) | grind
theorem book_Shop (b : BookR) (name : Bs) : Fn Tryz.prog gb 267 [.agg (BookR.pc b), .str name] (.tup [.agg (ShopR.pc ((shopOf b.shops name).getD ShopR.zero)), .bool ((shopOf b.shops name).isSome)]) := by
  refine fn_cw tv23 Tryz.func267 rfl Tryz.ntmps267 rfl cb267 rfl rfl fun w N H hG => ?_
  have b_shops_l : b.shops.length ≤ 140737488355328 := w.1.1.1
  have b_binds_l : b.binds.length ≤ 140737488355328 := w.1.2.1.1
  have name_l : name.length ≤ 9223372036854775807 := w.2.1
  refine go tv23 2 rfl rfl trivial ?_
  refine ef (boxA 0 rfl rfl rfl fun b1 => ?_)
  refine ef (alloc tv23 1 rfl rfl rfl rfl fun b2 => ?_)
  refine go tv23 13 rfl rfl trivial ?_
  refine loop (ι := Nat) [0, 1, 2, 4, 8, 9, 10] [0, 1] (fun k => [(11, .int .i64 (k : Int))]) (fun k => []) (fun k => k ≤ b.shops.length ∧ shopOf b.shops name = shopOf (b.shops.drop k) name) (fun k => b.shops.length - k) 0 ⟨rfl, trivial⟩ trivial ?_ ?_
  · exact ⟨Nat.zero_le _, rfl⟩
  rintro k hp3
  obtain ⟨hk1, hk2⟩ := hp3
  refine go tv23 6 rfl rfl trivial ?_
  refine cnd rfl (fun h4 => ?_) (fun h4 => ?_)
  · have p5 := dt h4
    obtain ⟨c6, hc7⟩ := getE (xs := b.shops) (m := k) (by omega)
    have c6_w := ShopR.pwf (w.1.1.2 c6 (List.mem_of_getElem? hc7))
    refine go tv23 6 rfl rfl trivial ?_
    refine q1 (qidx tv23 k rfl rfl rfl hc7 rfl rfl rfl rfl) rfl fun w8 => ?_
    refine go tv23 1 rfl rfl trivial ?_
    refine ef (alloc tv23 2 rfl rfl rfl rfl fun b9 => ?_)
    refine ef (storeA tv23 rfl rfl rfl rfl rfl rfl rfl rfl rfl rfl ?_)
    refine go tv23 10 rfl rfl trivial ?_
    refine cnd rfl (fun h10 => ?_) (fun h10 => ?_)
    · have p11 := dt h10
      refine go tv23 3 rfl rfl trivial ?_
      refine ef (storeA tv23 rfl rfl rfl rfl rfl rfl rfl rfl rfl rfl ?_)
      refine go tv23 9 rfl rfl trivial ?_
      refine rt2 rfl rfl ?_
      refine ple ?_
      have e := shopOf_hit hk2 (dropE hc7) (by assumption)
      rw [e]
      rfl
    have p12 := df h10
    refine go tv23 7 rfl rfl ⟨(by omega), trivial⟩ ?_
    refine next (k + 1) rfl rfl ⟨rfl, trivial⟩ trivial ?_ ?_
    · (try simp only []); omega
    exact ⟨by omega, shopOf_miss hk2 (dropE hc7) (by assumption)⟩
  have p13 := df h4
  refine go tv23 8 rfl rfl trivial ?_
  refine ef (storeA tv23 rfl rfl rfl rfl rfl rfl rfl rfl rfl rfl ?_)
  refine go tv23 4 rfl rfl trivial ?_
  refine rt2 rfl rfl ?_
  refine ple ?_
  rw [List.drop_of_length_le (by omega)] at hk2
  rw [hk2]
  rfl
end Go.SW.V
set_option linter.unusedVariables false
set_option maxRecDepth 100000
set_option maxHeartbeats 4000000
namespace Go.SW.V
open Go.SW Go.Proofs
theorem cb124 : Callable Tryz.prog 124 := callable_of Tryz.func124 (by kernel_rfl) (by kernel_rfl)
theorem cb269 : Callable Tryz.prog 269 := callable_of Tryz.func269 (by kernel_rfl) (by kernel_rfl)
theorem cb272 : Callable Tryz.prog 272 := callable_of Tryz.func272 (by kernel_rfl) (by kernel_rfl)
theorem cb280 : Callable Tryz.prog 280 := callable_of Tryz.func280 (by kernel_rfl) (by kernel_rfl)
theorem cb281 : Callable Tryz.prog 281 := callable_of Tryz.func281 (by kernel_rfl) (by kernel_rfl)
def tbv24 : Tb := [(4, ⟨.bool, 1, 1, [.bool false]⟩),
  (9, ⟨.str, 1, 16, [.str []]⟩),
  (47, ⟨.slc 199, 1, 24, [.sl Pair.pc []]⟩),
  (49, ⟨.agg [(0, 1), (1, 1), (2, 1), (3, 1), (4, 1), (5, 1)], 6, 88, [.str [], .str [], .bool false, .str [], .sl Pair.pc [], .bool false]⟩),
  (199, ⟨.agg [(0, 1), (1, 1), (2, 1), (3, 1)], 4, 48, [.str [], .int .u8 0, .int .i64 0, .str []]⟩),
  (322, ⟨.agg [(0, 1), (1, 1), (2, 1), (3, 1)], 4, 56, [.int .u8 0, .str [], .sl Pair.pc [], .bool false]⟩),
  (340, ⟨.slc 49, 1, 24, [.sl BindR.pc []]⟩)]
theorem tv24 : tbB Tryz.prog tbv24 = true := by kernel_rfl
theorem bind_rule (x : BindR) (sort : Int) : Fn Tryz.prog gb 269 [.agg (BindR.pc x), .int .u8 sort] (.agg (Rule.pc (bindRule x sort))) := by
  refine fn_cw tv24 Tryz.func269 rfl Tryz.ntmps269 rfl cb269 rfl rfl fun w N H hG => ?_
  have x_want_l : x.want.length ≤ 140737488355328 := w.1.2.2.2.2.1.1
  have sort_r : 0 ≤ sort ∧ sort ≤ 255 := w.2.1
  refine go tv24 2 rfl rfl trivial ?_
  refine ef (boxA 0 rfl rfl rfl fun b1 => ?_)
  refine ef (alloc tv24 1 rfl rfl rfl rfl fun b2 => ?_)
  refine go tv24 12 rfl rfl trivial ?_
  refine ef (storeA tv24 rfl rfl rfl rfl rfl rfl rfl rfl rfl rfl ?_)
  refine go tv24 3 rfl rfl trivial ?_
  refine rt1 rfl rfl ?_
  refine ple ?_
  rfl
theorem bind_same (x : BindR) (y : BindR) : Fn Tryz.prog gb 281 [.agg (BindR.pc x), .agg (BindR.pc y)] (.bool (decide (x = y))) := by
  refine fn_cw tv24 Tryz.func281 rfl Tryz.ntmps281 rfl cb281 rfl rfl fun w N H hG => ?_
  have x_want_l : x.want.length ≤ 140737488355328 := w.1.2.2.2.2.1.1
  have y_want_l : y.want.length ≤ 140737488355328 := w.2.1.2.2.2.2.1.1
  refine go tv24 2 rfl rfl trivial ?_
  refine ef (boxA 0 rfl rfl rfl fun b1 => ?_)
  refine ef (boxA 1 rfl rfl rfl fun b2 => ?_)
  refine go tv24 4 rfl rfl trivial ?_
  refine any [2, 3, 4, 5, 6, 7] 27 mixd rfl ?_
  refine gov tv24 [0, 1, 2, 3, 4, 5, 6, 7, 8, 9, 10, 11, 12, 13, 14, 15, 16, 17, 18, 19, 20, 22] 5 rfl (by kernel_rfl) rfl rfl ⟨(fun hc => hc), (fun hc => hc), (fun hc => hc), (fun hc => hc), rfl, rfl, (fun hc => hc), (fun hc => hc), (fun hc => hc), (fun hc => hc), rfl, rfl, trivial⟩ ?_
  refine ve 21 rfl (by kernel_rfl) rfl (ecallg rfl (fun hc => (bind_rule _ _)) rfl ⟨(fun hc => hc), trivial⟩ rfl rfl fun _ => ?_)
  refine ve 23 rfl (by kernel_rfl) rfl (ecallg rfl (fun hc => (bind_rule _ _)) rfl ⟨(fun hc => hc), trivial⟩ rfl rfl fun _ => ?_)
  refine vcallg 24 rfl (by kernel_rfl) rfl (fun hc => (match_Same _ _)) rfl rfl ⟨(fun hc => hc), (fun hc => hc), trivial⟩ rfl fun _ => ?_
  refine gov tv24 [25, 26] 0 rfl (by kernel_rfl) rfl rfl ⟨rfl, rfl, trivial⟩ ?_
  refine vdone (by kernel_rfl) ?_
  refine go tv24 2 rfl rfl trivial ?_
  refine rt1 rfl rfl ?_
  refine ple ?_
  exact congrArg PV.bool (by rw [Bool.eq_iff_iff]; first | (simp [BindR.eq_iff, bindRule, and_assoc]; done) | (simp [BindR.eq_iff, bindRule]; grind))
theorem clone_Pair (s : List Pair) (hl : s.length ≤ 1000000) : Fn Tryz.prog gb 124 [.sl Pair.pc s] (.sl Pair.pc s) := by
  refine fn_cw tv24 Tryz.func124 rfl Tryz.ntmps124 rfl cb124 rfl rfl fun w N H hG => ?_
  have s_l : s.length ≤ 140737488355328 := w.1.1
  refine go tv24 9 rfl rfl trivial ?_
  refine ef (lnil tv24 rfl rfl rfl rfl rfl fun b1 hb2 => ?_)
  refine go tv24 2 rfl rfl trivial ?_
  refine cnd rfl (fun h3 => ?_) (fun h3 => ?_)
  · refine go tv24 7 rfl rfl trivial ?_
    refine rt1 rfl rfl ?_
    refine ple_nilx ?_
    exact hb2 (by assumption)
  refine go tv24 4 rfl rfl trivial ?_
  refine ef (bsl 0 Pair.pc [] tv24 rfl rfl rfl rfl rfl (fun _ => rfl) rfl (by decide) (by decide) rfl fun u4 => ?_)
  refine go tv24 1 rfl rfl trivial ?_
  refine ef (app tv24 s rfl rfl rfl rfl rfl rfl rfl rfl rfl (src_l rfl (fun _ => rfl)) (by first | omega | (simp; omega)) rfl fun u5 => ?_)
  refine go tv24 3 rfl rfl trivial ?_
  refine givec 0 rfl ?_
  refine go tv24 1 rfl rfl trivial ?_
  refine rt1 rfl rfl ?_
  refine ple ?_
  simp
theorem bind_clone (x : BindR) (hl : x.want.length ≤ 1000000) : Fn Tryz.prog gb 272 [.agg (BindR.pc x)] (.agg (BindR.pc x)) := by
  refine fn_cw tv24 Tryz.func272 rfl Tryz.ntmps272 rfl cb272 rfl rfl fun w N H hG => ?_
  have x_want_l : x.want.length ≤ 140737488355328 := w.1.2.2.2.2.1.1
  refine go tv24 2 rfl rfl trivial ?_
  refine ef (boxA 0 rfl rfl rfl fun b1 => ?_)
  refine ef (alloc tv24 1 rfl rfl rfl rfl fun b2 => ?_)
  refine go tv24 6 rfl rfl trivial ?_
  refine call (clone_Pair _ (by first | omega | (simp; done) | (simp; omega))) rfl rfl fun w3 => ?_
  refine go tv24 1 rfl rfl trivial ?_
  refine ef (store1 tv24 rfl rfl rfl rfl rfl rfl rfl rfl rfl ?_)
  refine go tv24 5 rfl rfl trivial ?_
  refine ef (storeA tv24 rfl rfl rfl rfl rfl rfl rfl rfl rfl rfl ?_)
  refine go tv24 3 rfl rfl trivial ?_
  refine rt1 rfl rfl ?_
  refine ple ?_
  rfl
theorem idxF_Bind (s : List BindR) (f : FuncId) (f_fst f_cap : List PV) (f_p : BindR → Bool) (f_h : ∀ x, Fn Tryz.prog gb f (argsP.apL f_fst ((.agg (BindR.pc x)) :: f_cap)) (.bool (f_p x))) : Fn Tryz.prog gb 280 [.sl BindR.pc s, .fn f f_fst f_cap] (.int .i64 (idxP f_p s)) := by
  refine fn_cw tv24 Tryz.func280 rfl Tryz.ntmps280 rfl cb280 rfl rfl fun w N H hG => ?_
  have s_l : s.length ≤ 140737488355328 := w.1.1
  refine go tv24 14 rfl rfl trivial ?_
  refine loop (ι := Nat) [0, 1, 6, 7] [] (fun k => [(8, .int .i64 (k : Int))]) (fun k => []) (fun k => k ≤ s.length ∧ idxP f_p s = idxF f_p k (s.drop k)) (fun k => s.length - k) 0 ⟨rfl, trivial⟩ trivial ?_ ?_
  · exact ⟨Nat.zero_le _, rfl⟩
  rintro k hp1
  obtain ⟨hk1, hk2⟩ := hp1
  refine go tv24 6 rfl rfl trivial ?_
  refine cnd rfl (fun h2 => ?_) (fun h2 => ?_)
  · have p3 := dt h2
    obtain ⟨c4, hc5⟩ := getE (xs := s) (m := k) (by omega)
    have c4_w := BindR.pwf (w.1.2 c4 (List.mem_of_getElem? hc5))
    refine go tv24 15 rfl rfl trivial ?_
    refine q1 (qidx tv24 k rfl rfl rfl hc5 rfl rfl rfl rfl) rfl fun w6 => ?_
    refine go tv24 1 rfl rfl trivial ?_
    refine call (f_h c4) rfl rfl fun w7 => ?_
    refine go tv24 2 rfl rfl trivial ?_
    refine cnd rfl (fun h8 => ?_) (fun h8 => ?_)
    · refine go tv24 12 rfl rfl trivial ?_
      refine rt1 rfl rfl ?_
      refine ple ?_
      exact congrArg (PV.int .i64) (idx_hit hk2 (dropE hc5) (by assumption)).symm
    refine go tv24 7 rfl rfl ⟨(by omega), trivial⟩ ?_
    refine next (k + 1) rfl rfl ⟨rfl, trivial⟩ trivial ?_ ?_
    · omega
    exact ⟨by omega, idx_miss hk2 (dropE hc5) (by assumption)⟩
  have p9 := df h2
  refine go tv24 11 rfl rfl trivial ?_
  refine rt1 rfl rfl ?_
  refine ple ?_
  exact congrArg (PV.int .i64) (idx_end hk2 (by omega)).symm
end Go.SW.V
set_option linter.unusedVariables false
set_option maxRecDepth 100000
set_option maxHeartbeats 4000000
namespace Go.SW.V
open Go.SW Go.Proofs
theorem cb148 : Callable Tryz.prog 148 := callable_of Tryz.func148 (by kernel_rfl) (by kernel_rfl)
theorem cb150 : Callable Tryz.prog 150 := callable_of Tryz.func150 (by kernel_rfl) (by kernel_rfl)
theorem cb188 : Callable Tryz.prog 188 := callable_of Tryz.func188 (by kernel_rfl) (by kernel_rfl)
theorem cb190 : Callable Tryz.prog 190 := callable_of Tryz.func190 (by kernel_rfl) (by kernel_rfl)
theorem cb213 : Callable Tryz.prog 213 := callable_of Tryz.func213 (by kernel_rfl) (by kernel_rfl)
theorem cb223 : Callable Tryz.prog 223 := callable_of Tryz.func223 (by kernel_rfl) (by kernel_rfl)
theorem cb225 : Callable Tryz.prog 225 := callable_of Tryz.func225 (by kernel_rfl) (by kernel_rfl)
theorem cb240 : Callable Tryz.prog 240 := callable_of Tryz.func240 (by kernel_rfl) (by kernel_rfl)
theorem cb245 : Callable Tryz.prog 245 := callable_of Tryz.func245 (by kernel_rfl) (by kernel_rfl)
theorem cb247 : Callable Tryz.prog 247 := callable_of Tryz.func247 (by kernel_rfl) (by kernel_rfl)
def tbv25 : Tb := [(9, ⟨.str, 1, 16, [.str []]⟩),
  (51, ⟨.agg [(0, 1), (1, 1), (2, 1), (3, 1), (4, 1), (5, 1), (6, 1)], 7, 96, [.int .u64 0, .str [], .str [], .sl Pair.pc [], .str [], .int .u64 0, .int .u8 0]⟩),
  (285, ⟨.agg [(0, 1), (1, 1)], 2, 24, [.str [], .int .i64 0]⟩),
  (322, ⟨.agg [(0, 1), (1, 1), (2, 1), (3, 1)], 4, 56, [.int .u8 0, .str [], .sl Pair.pc [], .bool false]⟩)]
theorem tv25 : tbB Tryz.prog tbv25 = true := by kernel_rfl
theorem l01_awake : Fn Tryz.prog gb 245 [] (.bool true) := by
  refine fn_cw tv25 Tryz.func245 rfl Tryz.ntmps245 rfl cb245 rfl rfl fun w N H hG => ?_
  refine go tv25 8 rfl rfl trivial ?_
  refine call (out_Num (⟨[], 0⟩ : Out) _ _ (by first | omega | (have := hrl (by assumption); omega) | (simp [outNum, outRaw, numB_len, numK] <;> omega) | (have := hrl (by assumption); simp [outNum, outRaw, numB_len, numK] <;> omega))) rfl rfl fun w1 => ?_
  have nl0 : (⟨[], 0⟩ : Out).s.length = 0 := rfl
  have := outNum_len (⟨[], 0⟩ : Out) 258 2
  refine call (out_String _) rfl rfl fun w2 => ?_
  refine go tv25 1 rfl rfl trivial ?_
  refine so_rt (t := 4) (p' := .bool true) (ple (congrArg PV.bool (show decide (((outNum (⟨[], 0⟩ : Out) 258 2).s) = [1, 2]) = true by decide +kernel))) rfl ?_
  refine go tv25 1 rfl rfl trivial ?_
  refine ungd rfl rfl ?_
  refine go tv25 1 rfl rfl trivial ?_
  refine ungd rfl rfl ?_
  refine call (out_Text (⟨[], 0⟩ : Out) _ (by first | omega | (have := hrl (by assumption); omega) | (simp [outNum, outRaw, numB_len, numK] <;> omega) | (have := hrl (by assumption); simp [outNum, outRaw, numB_len, numK] <;> omega))) rfl rfl fun w3 => ?_
  have nl0 : (⟨[], 0⟩ : Out).s.length = 0 := rfl
  have := outText_len (⟨[], 0⟩ : Out) [97, 98]
  refine ungd rfl rfl ?_
  refine call (out_String _) rfl rfl fun w4 => ?_
  refine ungd rfl rfl ?_
  refine go tv25 1 rfl rfl trivial ?_
  refine so_rt (t := 9) (p' := .bool true) (ple (congrArg PV.bool (show decide (((outText (⟨[], 0⟩ : Out) [97, 98]).s) = [0, 2, 97, 98]) = true by decide +kernel))) rfl ?_
  refine go tv25 2 rfl rfl trivial ?_
  refine ungd rfl rfl ?_
  refine ef (ecallb 0 (octet_New _) rfl rfl fun w5 b6 => ?_)
  refine ungd rfl rfl ?_
  refine ef (ecallm (in_Num (⟨[1, 2], 0⟩) _) rfl rfl rfl rfl rfl fun w7 w7p => ?_)
  have := inNum_r (⟨[1, 2], 0⟩) 2
  refine ungd rfl rfl ?_
  refine go tv25 1 rfl rfl trivial ?_
  refine so_rt (t := 14) (p' := .bool true) (ple (congrArg PV.bool (show decide ((((inNum (⟨[1, 2], 0⟩) 2)).1) = 258) = true by decide +kernel))) rfl ?_
  refine go tv25 5 rfl rfl trivial ?_
  refine rt1 rfl rfl ?_
  refine ple ?_
  exact congrArg PV.bool (by first | rfl | decide +kernel)
theorem l01_Awake : Fn Tryz.prog gb 223 [] (.bool true) := by
  refine fn_cw tv25 Tryz.func223 rfl Tryz.ntmps223 rfl cb223 rfl rfl fun w N H hG => ?_
  refine go tv25 7 rfl rfl trivial ?_
  refine call l01_awake rfl rfl fun w1 => ?_
  refine go tv25 4 rfl rfl trivial ?_
  refine rt1 rfl rfl ?_
  refine ple ?_
  rfl
theorem l04_awake : Fn Tryz.prog gb 247 [] (.bool true) := by
  refine fn_cw tv25 Tryz.func247 rfl Tryz.ntmps247 rfl cb247 rfl rfl fun w N H hG => ?_
  refine go tv25 7 rfl rfl trivial ?_
  refine call (words_Matches _ _ (by first | omega | (simp; done) | decide) (by first | omega | (simp; done) | decide)) rfl rfl fun w1 => ?_
  refine so_rt (t := 1) (p' := .bool true) (ple (congrArg PV.bool (show mt (wordsOf [97, 46, 42, 46, 35]) (wordsOf [97, 46, 98]) = true by decide +kernel))) rfl ?_
  refine go tv25 1 rfl rfl trivial ?_
  refine ungd rfl rfl ?_
  refine call (words_Matches _ _ (by first | omega | (simp; done) | decide) (by first | omega | (simp; done) | decide)) rfl rfl fun w2 => ?_
  refine so_rt (t := 3) (p' := .bool true) (ple (congrArg PV.bool (show mt (wordsOf [97, 46, 42, 46, 35]) (wordsOf [97, 46, 98, 46, 99, 46, 100]) = true by decide +kernel))) rfl ?_
  refine go tv25 2 rfl rfl trivial ?_
  refine ungd rfl rfl ?_
  refine call (words_Matches _ _ (by first | omega | (simp; done) | decide) (by first | omega | (simp; done) | decide)) rfl rfl fun w3 => ?_
  refine so_rt (t := 6) (p' := .bool false) (ple (congrArg PV.bool (show mt (wordsOf [97, 46, 42, 46, 35]) (wordsOf [97]) = false by decide +kernel))) rfl ?_
  refine ungd rfl rfl ?_
  refine go tv25 1 rfl rfl trivial ?_
  refine so_rt (t := 7) (p' := .bool true) (ple (congrArg PV.bool (show !false = true by decide +kernel))) rfl ?_
  refine go tv25 2 rfl rfl trivial ?_
  refine ungd rfl rfl ?_
  refine call (words_Name _) rfl rfl fun w4 => ?_
  refine ungd rfl rfl ?_
  refine go tv25 1 rfl rfl trivial ?_
  refine so_rt (t := 11) (p' := .bool true) (ple (congrArg PV.bool (show decide ((nameE [97, 45, 49]) = 0) = true by decide +kernel))) rfl ?_
  refine go tv25 5 rfl rfl trivial ?_
  refine rt1 rfl rfl ?_
  refine ple ?_
  exact congrArg PV.bool (by first | rfl | decide +kernel)
theorem l04_Awake : Fn Tryz.prog gb 225 [] (.bool true) := by
  refine fn_cw tv25 Tryz.func225 rfl Tryz.ntmps225 rfl cb225 rfl rfl fun w N H hG => ?_
  refine go tv25 7 rfl rfl trivial ?_
  refine call l04_awake rfl rfl fun w1 => ?_
  refine go tv25 4 rfl rfl trivial ?_
  refine rt1 rfl rfl ?_
  refine ple ?_
  rfl
theorem l09_awake : Fn Tryz.prog gb 190 [] (.bool true) := by
  refine fn_cw tv25 Tryz.func190 rfl Tryz.ntmps190 rfl cb190 rfl rfl fun w N H hG => ?_
  refine go tv25 7 rfl rfl trivial ?_
  refine call (Fn.le (head_Bytes []) (ples_cons ple_nil ples_nil) (ple rfl) rfl) rfl rfl fun w1 => ?_
  have := headBytes_len []
  refine go tv25 9 rfl rfl trivial ?_
  refine call l01_Awake rfl rfl fun w2 => ?_
  refine go tv25 1 rfl rfl trivial ?_
  refine ungd rfl rfl ?_
  refine call l04_Awake rfl rfl fun w3 => ?_
  refine go tv25 2 rfl rfl trivial ?_
  refine ungd rfl rfl ?_
  refine go tv25 1 rfl rfl trivial ?_
  refine ungd rfl rfl ?_
  refine go tv25 1 rfl rfl trivial ?_
  refine so_rt (t := 13) (p' := .bool true) (ple (congrArg PV.bool (show decide ((headE []) = 0) = true by decide +kernel))) rfl ?_
  refine go tv25 2 rfl rfl trivial ?_
  refine ungd rfl rfl ?_
  refine go tv25 1 rfl rfl trivial ?_
  refine ungd rfl rfl ?_
  refine go tv25 1 rfl rfl trivial ?_
  refine so_rt (t := 17) (p' := .bool true) (ple (congrArg PV.bool (show decide ((headBytes []) = [0]) = true by decide +kernel))) rfl ?_
  refine go tv25 5 rfl rfl trivial ?_
  refine rt1 rfl rfl ?_
  refine ple ?_
  exact congrArg PV.bool (by first | rfl | decide +kernel)
theorem l09_Awake : Fn Tryz.prog gb 150 [] (.bool true) := by
  refine fn_cw tv25 Tryz.func150 rfl Tryz.ntmps150 rfl cb150 rfl rfl fun w N H hG => ?_
  refine go tv25 7 rfl rfl trivial ?_
  refine call l09_awake rfl rfl fun w1 => ?_
  refine go tv25 4 rfl rfl trivial ?_
  refine rt1 rfl rfl ?_
  refine ple ?_
  rfl
theorem l10_awake : Fn Tryz.prog gb 188 [] (.bool true) := by
  refine fn_cw tv25 Tryz.func188 rfl Tryz.ntmps188 rfl cb188 rfl rfl fun w N H hG => ?_
  refine go tv25 8 rfl rfl trivial ?_
  refine ef (alloc tv25 0 rfl rfl rfl rfl fun b1 => ?_)
  refine ef (storeA tv25 rfl rfl rfl rfl rfl rfl rfl rfl rfl rfl ?_)
  refine go tv25 4 rfl rfl trivial ?_
  refine call l04_Awake rfl rfl fun w2 => ?_
  refine go tv25 1 rfl rfl trivial ?_
  refine ungd rfl rfl ?_
  refine call l09_Awake rfl rfl fun w3 => ?_
  refine go tv25 2 rfl rfl trivial ?_
  refine ungd rfl rfl ?_
  refine go tv25 1 rfl rfl trivial ?_
  refine ungd rfl rfl ?_
  refine call (rule_Check (⟨2, [97, 46, 35], [], false⟩ : Rule)) rfl rfl fun w4 => ?_
  refine ungd rfl rfl ?_
  refine go tv25 1 rfl rfl trivial ?_
  refine so_rt (t := 10) (p' := .bool true) (ple (congrArg PV.bool (show decide ((ruleE (⟨2, [97, 46, 35], [], false⟩ : Rule)) = 0) = true by decide +kernel))) rfl ?_
  refine go tv25 2 rfl rfl trivial ?_
  refine ungd rfl rfl ?_
  refine go tv25 1 rfl rfl trivial ?_
  refine ungd rfl rfl ?_
  refine call (Fn.le (rule_Goes (⟨2, [97, 46, 35], [], false⟩ : Rule) _ [] (by first | omega | (simp; done) | decide) (by first | omega | (simp; done) | decide)) (ples_cons (ple rfl) (ples_cons (ple rfl) (ples_cons ple_nil ples_nil))) (ple rfl) rfl) rfl rfl fun w5 => ?_
  refine so_rt (t := 14) (p' := .bool true) (ple (congrArg PV.bool (show goesR (⟨2, [97, 46, 35], [], false⟩ : Rule) [97, 46, 98] [] = true by decide +kernel))) rfl ?_
  refine go tv25 2 rfl rfl trivial ?_
  refine ungd rfl rfl ?_
  refine go tv25 1 rfl rfl trivial ?_
  refine ungd rfl rfl ?_
  refine call (Fn.le (rule_Goes (⟨2, [97, 46, 35], [], false⟩ : Rule) _ [] (by first | omega | (simp; done) | decide) (by first | omega | (simp; done) | decide)) (ples_cons (ple rfl) (ples_cons (ple rfl) (ples_cons ple_nil ples_nil))) (ple rfl) rfl) rfl rfl fun w6 => ?_
  refine so_rt (t := 18) (p' := .bool false) (ple (congrArg PV.bool (show goesR (⟨2, [97, 46, 35], [], false⟩ : Rule) [98] [] = false by decide +kernel))) rfl ?_
  refine ungd rfl rfl ?_
  refine go tv25 1 rfl rfl trivial ?_
  refine so_rt (t := 19) (p' := .bool true) (ple (congrArg PV.bool (show !false = true by decide +kernel))) rfl ?_
  refine go tv25 5 rfl rfl trivial ?_
  refine rt1 rfl rfl ?_
  refine ple ?_
  exact congrArg PV.bool (by first | rfl | decide +kernel)
theorem l10_Awake : Fn Tryz.prog gb 148 [] (.bool true) := by
  refine fn_cw tv25 Tryz.func148 rfl Tryz.ntmps148 rfl cb148 rfl rfl fun w N H hG => ?_
  refine go tv25 7 rfl rfl trivial ?_
  refine call l10_awake rfl rfl fun w1 => ?_
  refine go tv25 4 rfl rfl trivial ?_
  refine rt1 rfl rfl ?_
  refine ple ?_
  rfl
theorem l13_awake : Fn Tryz.prog gb 240 [] (.bool true) := by
  refine fn_cw tv25 Tryz.func240 rfl Tryz.ntmps240 rfl cb240 rfl rfl fun w N H hG => ?_
  refine go tv25 8 rfl rfl trivial ?_
  refine call (mail_Bytes (⟨0, [97], [], [], [], 0, 0⟩ : Mail)) rfl rfl fun w1 => ?_
  have := mailBytes_len (⟨0, [97], [], [], [], 0, 0⟩ : Mail)
  refine go tv25 9 rfl rfl trivial ?_
  refine call l09_Awake rfl rfl fun w2 => ?_
  refine go tv25 1 rfl rfl trivial ?_
  refine ungd rfl rfl ?_
  refine go tv25 1 rfl rfl trivial ?_
  refine ungd rfl rfl ?_
  refine go tv25 1 rfl rfl trivial ?_
  refine so_rt (t := 11) (p' := .bool true) (ple (congrArg PV.bool (show decide ((mailC (⟨0, [97], [], [], [], 0, 0⟩ : Mail)) = 0) = true by decide +kernel))) rfl ?_
  refine go tv25 2 rfl rfl trivial ?_
  refine ungd rfl rfl ?_
  refine go tv25 1 rfl rfl trivial ?_
  refine ungd rfl rfl ?_
  refine go tv25 1 rfl rfl trivial ?_
  refine ungd rfl rfl ?_
  refine go tv25 1 rfl rfl trivial ?_
  refine so_rt (t := 16) (p' := .bool true) (ple (congrArg PV.bool (show decide (((mailBytes (⟨0, [97], [], [], [], 0, 0⟩ : Mail)).length : Int) = 25) = true by decide +kernel))) rfl ?_
  refine go tv25 5 rfl rfl trivial ?_
  refine rt1 rfl rfl ?_
  refine ple ?_
  exact congrArg PV.bool (by first | rfl | decide +kernel)
theorem l13_Awake : Fn Tryz.prog gb 213 [] (.bool true) := by
  refine fn_cw tv25 Tryz.func213 rfl Tryz.ntmps213 rfl cb213 rfl rfl fun w N H hG => ?_
  refine go tv25 7 rfl rfl trivial ?_
  refine call l13_awake rfl rfl fun w1 => ?_
  refine go tv25 4 rfl rfl trivial ?_
  refine rt1 rfl rfl ?_
  refine ple ?_
  rfl
end Go.SW.V
set_option linter.unusedVariables false
set_option maxRecDepth 100000
set_option maxHeartbeats 4000000
namespace Go.SW.V
open Go.SW Go.Proofs
theorem cb145 : Callable Tryz.prog 145 := callable_of Tryz.func145 (by kernel_rfl) (by kernel_rfl)
theorem cb185 : Callable Tryz.prog 185 := callable_of Tryz.func185 (by kernel_rfl) (by kernel_rfl)
theorem cb224 : Callable Tryz.prog 224 := callable_of Tryz.func224 (by kernel_rfl) (by kernel_rfl)
theorem cb246 : Callable Tryz.prog 246 := callable_of Tryz.func246 (by kernel_rfl) (by kernel_rfl)
def tbv26 : Tb := [(9, ⟨.str, 1, 16, [.str []]⟩),
  (158, ⟨.agg [(0, 1), (1, 1), (2, 1)], 3, 24, [.int .u8 0, .int .u8 0, .str []]⟩),
  (200, ⟨.slc 9, 1, 24, [.sl strc []]⟩)]
theorem tv26 : tbB Tryz.prog tbv26 = true := by kernel_rfl
theorem l02_awake : Fn Tryz.prog gb 246 [] (.bool true) := by
  refine fn_cw tv26 Tryz.func246 rfl Tryz.ntmps246 rfl cb246 rfl rfl fun w N H hG => ?_
  refine go tv26 7 rfl rfl trivial ?_
  refine ef (bsl 0 strc [[49, 50, 51, 52], [53, 54, 55, 56, 57]] tv26 rfl rfl rfl rfl rfl (fun _ => rfl) rfl (by decide) (by decide) rfl fun u1 => ?_)
  refine ef (calll 0 rfl (crc_Sum _) rfl rfl rfl fun w2 => ?_)
  have := crcSum_r [[49, 50, 51, 52], [53, 54, 55, 56, 57]]
  refine go tv26 1 rfl rfl trivial ?_
  refine so_rt (t := 3) (p' := .bool true) (ple (congrArg PV.bool (show decide ((crcSum [[49, 50, 51, 52], [53, 54, 55, 56, 57]]) = 3421780262) = true by decide +kernel))) rfl ?_
  refine go tv26 1 rfl rfl trivial ?_
  refine ungd rfl rfl ?_
  refine call (Fn.le (crc_Sum []) (ples_cons ple_nil ples_nil) (ple rfl) rfl) rfl rfl fun w3 => ?_
  have := crcSum_r []
  refine ungd rfl rfl ?_
  refine go tv26 1 rfl rfl trivial ?_
  refine so_rt (t := 6) (p' := .bool true) (ple (congrArg PV.bool (show decide ((crcSum []) = 0) = true by decide +kernel))) rfl ?_
  refine go tv26 5 rfl rfl trivial ?_
  refine rt1 rfl rfl ?_
  refine ple ?_
  exact congrArg PV.bool (by first | rfl | decide +kernel)
theorem l02_Awake : Fn Tryz.prog gb 224 [] (.bool true) := by
  refine fn_cw tv26 Tryz.func224 rfl Tryz.ntmps224 rfl cb224 rfl rfl fun w N H hG => ?_
  refine go tv26 7 rfl rfl trivial ?_
  refine call l02_awake rfl rfl fun w1 => ?_
  refine go tv26 4 rfl rfl trivial ?_
  refine rt1 rfl rfl ?_
  refine ple ?_
  rfl
theorem l07_awake : Fn Tryz.prog gb 185 [] (.bool true) := by
  refine fn_cw tv26 Tryz.func185 rfl Tryz.ntmps185 rfl cb185 rfl rfl fun w N H hG => ?_
  refine go tv26 8 rfl rfl trivial ?_
  refine call (frame_Bytes (⟨1, 2, []⟩ : Frame)) rfl rfl fun w1 => ?_
  refine go tv26 9 rfl rfl trivial ?_
  refine call l01_Awake rfl rfl fun w2 => ?_
  refine go tv26 1 rfl rfl trivial ?_
  refine ungd rfl rfl ?_
  refine call l02_Awake rfl rfl fun w3 => ?_
  refine go tv26 2 rfl rfl trivial ?_
  refine ungd rfl rfl ?_
  refine go tv26 1 rfl rfl trivial ?_
  refine ungd rfl rfl ?_
  refine go tv26 1 rfl rfl trivial ?_
  refine so_rt (t := 14) (p' := .bool true) (ple (congrArg PV.bool (show decide ((frameErr (⟨1, 2, []⟩ : Frame)) = 0) = true by decide +kernel))) rfl ?_
  refine go tv26 2 rfl rfl trivial ?_
  refine ungd rfl rfl ?_
  refine go tv26 1 rfl rfl trivial ?_
  refine ungd rfl rfl ?_
  refine go tv26 1 rfl rfl trivial ?_
  refine ungd rfl rfl ?_
  refine go tv26 1 rfl rfl trivial ?_
  refine so_rt (t := 19) (p' := .bool true) (ple (congrArg PV.bool (show decide (((frameBytes (⟨1, 2, []⟩ : Frame)).length : Int) = 9) = true by decide +kernel))) rfl ?_
  refine go tv26 2 rfl rfl trivial ?_
  refine ungd rfl rfl ?_
  refine go tv26 1 rfl rfl trivial ?_
  refine ungd rfl rfl ?_
  have := u8r ((frameBytes (⟨1, 2, []⟩ : Frame)).getD 8 0)
  refine q1 (sidx tv26 8 rfl rfl rfl rfl rfl (by first | omega | decide +kernel)) rfl fun w4 => ?_
  refine ungd rfl rfl ?_
  refine go tv26 1 rfl rfl trivial ?_
  refine so_rt (t := 24) (p' := .bool true) (ple (congrArg PV.bool (show decide ((((frameBytes (⟨1, 2, []⟩ : Frame)).getD 8 0).toNat : Int) = 206) = true by decide +kernel))) rfl ?_
  refine go tv26 5 rfl rfl trivial ?_
  refine rt1 rfl rfl ?_
  refine ple ?_
  exact congrArg PV.bool (by first | rfl | decide +kernel)
theorem l07_Awake : Fn Tryz.prog gb 145 [] (.bool true) := by
  refine fn_cw tv26 Tryz.func145 rfl Tryz.ntmps145 rfl cb145 rfl rfl fun w N H hG => ?_
  refine go tv26 7 rfl rfl trivial ?_
  refine call l07_awake rfl rfl fun w1 => ?_
  refine go tv26 4 rfl rfl trivial ?_
  refine rt1 rfl rfl ?_
  refine ple ?_
  rfl
end Go.SW.V
set_option linter.unusedVariables false
set_option maxRecDepth 100000
set_option maxHeartbeats 4000000
namespace Go.SW.V
open Go.SW Go.Proofs
end Go.SW.V
set_option linter.unusedVariables false
set_option maxRecDepth 100000
set_option maxHeartbeats 4000000
namespace Go.SW.V
open Go.SW Go.Proofs
end Go.SW.V
set_option linter.unusedVariables false
set_option maxRecDepth 100000
set_option maxHeartbeats 4000000
namespace Go.SW.V
open Go.SW Go.Proofs
theorem cb115 : Callable Tryz.prog 115 := callable_of Tryz.func115 (by kernel_rfl) (by kernel_rfl)
theorem cb134 : Callable Tryz.prog 134 := callable_of Tryz.func134 (by kernel_rfl) (by kernel_rfl)
theorem cb135 : Callable Tryz.prog 135 := callable_of Tryz.func135 (by kernel_rfl) (by kernel_rfl)
theorem cb137 : Callable Tryz.prog 137 := callable_of Tryz.func137 (by kernel_rfl) (by kernel_rfl)
theorem cb140 : Callable Tryz.prog 140 := callable_of Tryz.func140 (by kernel_rfl) (by kernel_rfl)
theorem cb176 : Callable Tryz.prog 176 := callable_of Tryz.func176 (by kernel_rfl) (by kernel_rfl)
theorem cb268 : Callable Tryz.prog 268 := callable_of Tryz.func268 (by kernel_rfl) (by kernel_rfl)
theorem cb271 : Callable Tryz.prog 271 := callable_of Tryz.func271 (by kernel_rfl) (by kernel_rfl)
theorem cb279 : Callable Tryz.prog 279 := callable_of Tryz.func279 (by kernel_rfl) (by kernel_rfl)
theorem cb282 : Callable Tryz.prog 282 := callable_of Tryz.func282 (by kernel_rfl) (by kernel_rfl)
theorem cb40 : Callable Tryz.prog 40 := callable_of Tryz.func40 (by kernel_rfl) (by kernel_rfl)
theorem cb42 : Callable Tryz.prog 42 := callable_of Tryz.func42 (by kernel_rfl) (by kernel_rfl)
theorem cb60 : Callable Tryz.prog 60 := callable_of Tryz.func60 (by kernel_rfl) (by kernel_rfl)
theorem cb92 : Callable Tryz.prog 92 := callable_of Tryz.func92 (by kernel_rfl) (by kernel_rfl)
theorem cb93 : Callable Tryz.prog 93 := callable_of Tryz.func93 (by kernel_rfl) (by kernel_rfl)
theorem cb96 : Callable Tryz.prog 96 := callable_of Tryz.func96 (by kernel_rfl) (by kernel_rfl)
theorem eqg39 : Tryz.prog.eqGuardType Tryz.prog.depth 39 = false := by kernel_rfl
theorem veq39 (p q : LentR) : ∀ (H : Hp) (vs us : List Value), Sims H (LentR.pc p) vs → Sims H (LentR.pc q) us → EqV Tryz.prog 10000 39 (.agg vs.toArray) (.agg us.toArray) (decide (p = q)) := by
  intro H vs us hv hu
  obtain ⟨_, _, rfl, v0, v_0⟩ := hv.inv_cons
  obtain ⟨_, _, rfl, v1, v_1⟩ := v_0.inv_cons
  cases v_1.inv_nil
  cases v0.inv_int.1; cases v1.inv_str.1
  obtain ⟨_, _, rfl, u0, u_0⟩ := hu.inv_cons
  obtain ⟨_, _, rfl, u1, u_1⟩ := u_0.inv_cons
  cases u_1.inv_nil
  cases u0.inv_int.1; cases u1.inv_str.1
  exact EqV.to (eqv_agg Tryz.underlying39 (by kernel_rfl) (eqf_1 (by decide) ag27 rfl rfl (eqv_int Tryz.underlying27) (eqf_1 (by decide) ag9 rfl rfl (eqv_str Tryz.underlying9) eqf_nil))) (by obtain ⟨a0, a1⟩ := p; obtain ⟨b0, b1⟩ := q; rw [Bool.eq_iff_iff]; simp)
def tbv40 : Tb := [(3, ⟨.int .i64, 1, 8, [.int .i64 0]⟩),
  (25, ⟨.slc 151, 1, 24, [.sl TakerR.pc []]⟩),
  (26, ⟨.slc 39, 1, 24, [.sl LentR.pc []]⟩),
  (28, ⟨.slc 53, 1, 24, [.sl DeedR.pc []]⟩),
  (39, ⟨.agg [(0, 1), (1, 1)], 2, 24, [.int .u64 0, .str []]⟩),
  (44, ⟨.agg [(0, 1), (1, 1), (2, 1)], 3, 40, [.str [], .int .u8 0, .str []]⟩),
  (49, ⟨.agg [(0, 1), (1, 1), (2, 1), (3, 1), (4, 1), (5, 1)], 6, 88, [.str [], .str [], .bool false, .str [], .sl Pair.pc [], .bool false]⟩),
  (53, ⟨.agg [(0, 1), (1, 1), (2, 3), (5, 4), (9, 6), (15, 1), (16, 1), (17, 1), (18, 1), (19, 1), (20, 1), (21, 7), (28, 1)], 29, 344, [.int .u8 0, .int .u64 0, .str [], .int .u8 0, .str [], .str [], .int .u64 0, .int .u64 0, .str [], .str [], .str [], .bool false, .str [], .sl Pair.pc [], .bool false, .str [], .int .u64 0, .int .u8 0, .int .u8 0, .int .u8 0, .int .u64 0, .int .u64 0, .str [], .str [], .sl Pair.pc [], .str [], .int .u64 0, .int .u8 0, .str []]⟩),
  (151, ⟨.agg [(0, 1), (1, 1)], 2, 24, [.int .u64 0, .str []]⟩),
  (187, ⟨.slc 26, 1, 24, [.sl (slc LentR.pc) []]⟩),
  (242, ⟨.slc 25, 1, 24, [.sl (slc TakerR.pc) []]⟩),
  (280, ⟨.slc 28, 1, 24, [.sl (slc DeedR.pc) []]⟩),
  (339, ⟨.slc 44, 1, 24, [.sl ShopR.pc []]⟩),
  (340, ⟨.slc 49, 1, 24, [.sl BindR.pc []]⟩),
  (371, ⟨.slc 339, 1, 24, [.sl (slc ShopR.pc) []]⟩),
  (375, ⟨.slc 340, 1, 24, [.sl (slc BindR.pc) []]⟩)]
theorem tv40 : tbB Tryz.prog tbv40 = true := by kernel_rfl
theorem grow_Deed (n : Int) (hn : 0 ≤ n ∧ n ≤ 100000000) : Fo Tryz.prog gb 176 [.val (.slice none 0 0), .int .i64 n] (fun u => .val u) 29 53 DeedR.pc ([] : List DeedR) := by
  refine fo_cw tv40 Tryz.func176 rfl Tryz.ntmps176 rfl cb176 (fun _ => rfl) rfl fun w N H hG => ?_
  have n_r : -9223372036854775808 ≤ n ∧ n ≤ 9223372036854775807 := w.2.1
  refine go tv40 12 rfl rfl trivial ?_
  refine cnd rfl (fun h1 => ?_) (fun h1 => ?_)
  · have p2 := dt h1
    exfalso; omega
  have p3 := df h1
  refine go tv40 7 rfl rfl trivial ?_
  refine q1 (qcap0 tv40 rfl rfl rfl) rfl fun w4 => ?_
  refine go tv40 1 rfl rfl trivial ?_
  refine q1 (qlen0 tv40 rfl rfl rfl) rfl fun w5 => ?_
  refine go tv40 11 rfl rfl ⟨(by omega), (by omega), trivial⟩ ?_
  refine cnd rfl (fun h6 => ?_) (fun h6 => ?_)
  · have p7 := dt h6
    refine go tv40 3 rfl rfl trivial ?_
    refine q1 (qcap0 tv40 rfl rfl rfl) rfl fun w8 => ?_
    refine q1 (qcut0 tv40 rfl rfl rfl rfl rfl (by omega)) rfl fun w9 => ?_
    refine go tv40 1 rfl rfl trivial ?_
    refine ef (appz (m := ((n - (0 - 0))).toNat) 0 tv40 rfl rfl rfl rfl rfl rfl rfl rfl rfl rfl (by omega) (by omega) (by (try simp only []); omega) rfl rfl fun u10 => ?_)
    refine go tv40 1 rfl rfl trivial ?_
    refine q1 (qlen0 tv40 rfl rfl rfl) rfl fun w11 => ?_
    refine ef (ocut DeedR.pc tv40 rfl rfl rfl rfl rfl rfl (by omega) rfl fun u12 => ?_)
    refine go tv40 9 rfl rfl trivial ?_
    refine sw_val (t := 4) (i := 0) rfl rfl ?_
    refine go tv40 1 rfl rfl trivial ?_
    refine ro1 (j := 0) rfl rfl rfl ?_
    rfl
  have p13 := df h6
  refine go tv40 8 rfl rfl trivial ?_
  refine sw_own (t := 4) (k := 29) (e := 53) 0 DeedR.pc rfl rfl ?_
  refine sw_val (t := 4) (i := 0) rfl rfl ?_
  refine go tv40 1 rfl rfl trivial ?_
  refine ro1 (j := 0) rfl rfl rfl ?_
  rfl
theorem concat_Deed (ls : List (List DeedR)) (hl : ls.flatten.length ≤ 100000000) : Fn Tryz.prog gb 140 [.sl (slc DeedR.pc) ls] (.sl DeedR.pc ls.flatten) := by
  refine fn_cw tv40 Tryz.func140 rfl Tryz.ntmps140 rfl cb140 rfl rfl fun w N H hG => ?_
  have ls_l : ls.length ≤ 140737488355328 := w.1.1
  refine go tv40 19 rfl rfl trivial ?_
  refine loop (ι := Nat × Int) [0, 2, 9, 10] [] (fun ⟨k, n⟩ => [(3, .int .i64 n), (11, .int .i64 (k : Int))]) (fun ⟨k, n⟩ => []) (fun ⟨k, n⟩ => k ≤ ls.length ∧ n = ((ls.take k).flatten.length : Int)) (fun ⟨k, n⟩ => ls.length - k) ⟨0, 0⟩ ⟨rfl, rfl, trivial⟩ trivial ?_ ?_
  · exact ⟨Nat.zero_le _, by simp⟩
  rintro ⟨k, n⟩ hp1
  obtain ⟨hk1, hk2⟩ := hp1
  have hg0 := flat_le ls k
  refine go tv40 6 rfl rfl trivial ?_
  refine cnd rfl (fun h2 => ?_) (fun h2 => ?_)
  · have p3 := dt h2
    obtain ⟨c4, hc5⟩ := getE (xs := ls) (m := k) (by omega)
    refine go tv40 6 rfl rfl trivial ?_
    refine q1 (qidx tv40 k rfl rfl rfl hc5 rfl rfl rfl rfl) rfl fun w6 => ?_
    refine go tv40 19 rfl rfl ⟨(by have hg := flat_le ls (k + 1); have hfl := congrArg List.length (flat_step (by assumption : ls[k]? = some _)); simp only [List.length_append] at hfl; omega), trivial⟩ ?_
    refine cnd rfl (fun h7 => ?_) (fun h7 => ?_)
    · have p8 := dt h7
      exfalso; omega
    have p9 := df h7
    refine go tv40 7 rfl rfl ⟨(by have hg := flat_le ls (k + 1); have hfl := congrArg List.length (flat_step (by assumption : ls[k]? = some _)); simp only [List.length_append] at hfl; omega), trivial⟩ ?_
    refine next ⟨(k + 1), (n + (c4.length : Int))⟩ rfl rfl ⟨rfl, rfl, trivial⟩ trivial ?_ ?_
    · (try simp only []); omega
    have hf := flat_step hc5
    have hg := flat_le ls (k + 1)
    have hfl := congrArg List.length hf
    simp only [List.length_append] at hfl
    exact ⟨by omega, by (try simp only []); omega⟩
  have p10 := df h2
  refine go tv40 8 rfl rfl trivial ?_
  refine ef (ecallo 0 (grow_Deed _ (by omega)) rfl rfl fun u12 w11 => ?_)
  refine go tv40 12 rfl rfl trivial ?_
  refine sw_osl (t := 6) 0 rfl rfl ?_
  refine loop (ι := Nat × (List DeedR) × Value) [0, 2, 3, 9, 10, 11, 12, 23, 24, 25, 26] [] (fun ⟨k, out, u_out⟩ => [(6, .osl 0), (27, .int .i64 (k : Int))]) (fun ⟨k, out, u_out⟩ => [(0, .arr u_out 29 53 DeedR.pc out)]) (fun ⟨k, out, u_out⟩ => k ≤ ls.length ∧ out = (ls.take k).flatten) (fun ⟨k, out, u_out⟩ => ls.length - k) ⟨0, ([] : List DeedR), (u12)⟩ ⟨rfl, rfl, trivial⟩ ⟨rfl, trivial⟩ ?_ ?_
  · exact ⟨Nat.zero_le _, by simp⟩
  rintro ⟨k, out, u_out⟩ hp13
  obtain ⟨hk1, hk2⟩ := hp13
  refine go tv40 6 rfl rfl trivial ?_
  refine cnd rfl (fun h14 => ?_) (fun h14 => ?_)
  · have p15 := dt h14
    obtain ⟨c16, hc17⟩ := getE (xs := ls) (m := k) (by omega)
    refine go tv40 6 rfl rfl trivial ?_
    refine q1 (qidx tv40 k rfl rfl rfl hc17 rfl rfl rfl rfl) rfl fun w18 => ?_
    refine go tv40 7 rfl rfl trivial ?_
    refine ef (app tv40 c16 rfl rfl rfl rfl rfl rfl rfl rfl rfl (src_l rfl (fun _ => rfl)) (by have hg := flat_le ls (k + 1); have hfl := congrArg List.length (flat_step (by assumption : ls[k]? = some _)); simp only [List.length_append] at hfl; subst hk2; (try simp only []); omega) rfl fun u19 => ?_)
    refine go tv40 8 rfl rfl ⟨(by have hg := flat_le ls (k + 1); have hfl := congrArg List.length (flat_step (by assumption : ls[k]? = some _)); simp only [List.length_append] at hfl; omega), trivial⟩ ?_
    refine next ⟨(k + 1), (out ++ c16), (u19)⟩ rfl rfl ⟨rfl, rfl, trivial⟩ ⟨rfl, trivial⟩ ?_ ?_
    · (try simp only []); omega
    exact ⟨by omega, by (try simp only []); rw [flat_step hc17, hk2]⟩
  have p20 := df h14
  refine go tv40 11 rfl rfl trivial ?_
  refine givec 0 rfl ?_
  refine go tv40 1 rfl rfl trivial ?_
  refine rt1 rfl rfl ?_
  refine ple ?_
  rw [hk2, flat_full (by omega)]
theorem idxF_Deed (s : List DeedR) (f : FuncId) (f_fst f_cap : List PV) (f_p : DeedR → Bool) (f_h : ∀ x, Fn Tryz.prog gb f (argsP.apL f_fst ((.agg (DeedR.pc x)) :: f_cap)) (.bool (f_p x))) : Fn Tryz.prog gb 134 [.sl DeedR.pc s, .fn f f_fst f_cap] (.int .i64 (idxP f_p s)) := by
  refine fn_cw tv40 Tryz.func134 rfl Tryz.ntmps134 rfl cb134 rfl rfl fun w N H hG => ?_
  have s_l : s.length ≤ 140737488355328 := w.1.1
  refine go tv40 14 rfl rfl trivial ?_
  refine loop (ι := Nat) [0, 1, 6, 7] [] (fun k => [(8, .int .i64 (k : Int))]) (fun k => []) (fun k => k ≤ s.length ∧ idxP f_p s = idxF f_p k (s.drop k)) (fun k => s.length - k) 0 ⟨rfl, trivial⟩ trivial ?_ ?_
  · exact ⟨Nat.zero_le _, rfl⟩
  rintro k hp1
  obtain ⟨hk1, hk2⟩ := hp1
  refine go tv40 6 rfl rfl trivial ?_
  refine cnd rfl (fun h2 => ?_) (fun h2 => ?_)
  · have p3 := dt h2
    obtain ⟨c4, hc5⟩ := getE (xs := s) (m := k) (by omega)
    have c4_w := DeedR.pwf (w.1.2 c4 (List.mem_of_getElem? hc5))
    refine go tv40 15 rfl rfl trivial ?_
    refine q1 (qidx tv40 k rfl rfl rfl hc5 rfl rfl rfl rfl) rfl fun w6 => ?_
    refine go tv40 1 rfl rfl trivial ?_
    refine call (f_h c4) rfl rfl fun w7 => ?_
    refine go tv40 2 rfl rfl trivial ?_
    refine cnd rfl (fun h8 => ?_) (fun h8 => ?_)
    · refine go tv40 12 rfl rfl trivial ?_
      refine rt1 rfl rfl ?_
      refine ple ?_
      exact congrArg (PV.int .i64) (idx_hit hk2 (dropE hc5) (by assumption)).symm
    refine go tv40 7 rfl rfl ⟨(by omega), trivial⟩ ?_
    refine next (k + 1) rfl rfl ⟨rfl, trivial⟩ trivial ?_ ?_
    · omega
    exact ⟨by omega, idx_miss hk2 (dropE hc5) (by assumption)⟩
  have p9 := df h2
  refine go tv40 11 rfl rfl trivial ?_
  refine rt1 rfl rfl ?_
  refine ple ?_
  exact congrArg (PV.int .i64) (idx_end hk2 (by omega)).symm
theorem cF_Deed (s : List DeedR) (f : FuncId) (f_fst f_cap : List PV) (f_p : DeedR → Bool) (f_h : ∀ x, Fn Tryz.prog gb f (argsP.apL f_fst ((.agg (DeedR.pc x)) :: f_cap)) (.bool (f_p x))) : Fn Tryz.prog gb 93 [.sl DeedR.pc s, .fn f f_fst f_cap] (.bool (decide (0 ≤ idxP f_p s))) := by
  refine fn_cw tv40 Tryz.func93 rfl Tryz.ntmps93 rfl cb93 rfl rfl fun w N H hG => ?_
  have s_l : s.length ≤ 140737488355328 := w.1.1
  refine go tv40 9 rfl rfl trivial ?_
  refine call (idxF_Deed _ f f_fst f_cap f_p f_h) rfl rfl fun w1 => ?_
  have hix1 := idxP_b f_p s
  refine go tv40 5 rfl rfl trivial ?_
  refine rt1 rfl rfl ?_
  refine ple ?_
  rfl
theorem grow_Taker (n : Int) (hn : 0 ≤ n ∧ n ≤ 100000000) : Fo Tryz.prog gb 137 [.val (.slice none 0 0), .int .i64 n] (fun u => .val u) 2 151 TakerR.pc ([] : List TakerR) := by
  refine fo_cw tv40 Tryz.func137 rfl Tryz.ntmps137 rfl cb137 (fun _ => rfl) rfl fun w N H hG => ?_
  have n_r : -9223372036854775808 ≤ n ∧ n ≤ 9223372036854775807 := w.2.1
  refine go tv40 12 rfl rfl trivial ?_
  refine cnd rfl (fun h1 => ?_) (fun h1 => ?_)
  · have p2 := dt h1
    exfalso; omega
  have p3 := df h1
  refine go tv40 7 rfl rfl trivial ?_
  refine q1 (qcap0 tv40 rfl rfl rfl) rfl fun w4 => ?_
  refine go tv40 1 rfl rfl trivial ?_
  refine q1 (qlen0 tv40 rfl rfl rfl) rfl fun w5 => ?_
  refine go tv40 11 rfl rfl ⟨(by omega), (by omega), trivial⟩ ?_
  refine cnd rfl (fun h6 => ?_) (fun h6 => ?_)
  · have p7 := dt h6
    refine go tv40 3 rfl rfl trivial ?_
    refine q1 (qcap0 tv40 rfl rfl rfl) rfl fun w8 => ?_
    refine q1 (qcut0 tv40 rfl rfl rfl rfl rfl (by omega)) rfl fun w9 => ?_
    refine go tv40 1 rfl rfl trivial ?_
    refine ef (appz (m := ((n - (0 - 0))).toNat) 0 tv40 rfl rfl rfl rfl rfl rfl rfl rfl rfl rfl (by omega) (by omega) (by (try simp only []); omega) rfl rfl fun u10 => ?_)
    refine go tv40 1 rfl rfl trivial ?_
    refine q1 (qlen0 tv40 rfl rfl rfl) rfl fun w11 => ?_
    refine ef (ocut TakerR.pc tv40 rfl rfl rfl rfl rfl rfl (by omega) rfl fun u12 => ?_)
    refine go tv40 9 rfl rfl trivial ?_
    refine sw_val (t := 4) (i := 0) rfl rfl ?_
    refine go tv40 1 rfl rfl trivial ?_
    refine ro1 (j := 0) rfl rfl rfl ?_
    rfl
  have p13 := df h6
  refine go tv40 8 rfl rfl trivial ?_
  refine sw_own (t := 4) (k := 2) (e := 151) 0 TakerR.pc rfl rfl ?_
  refine sw_val (t := 4) (i := 0) rfl rfl ?_
  refine go tv40 1 rfl rfl trivial ?_
  refine ro1 (j := 0) rfl rfl rfl ?_
  rfl
theorem concat_Taker (ls : List (List TakerR)) (hl : ls.flatten.length ≤ 100000000) : Fn Tryz.prog gb 96 [.sl (slc TakerR.pc) ls] (.sl TakerR.pc ls.flatten) := by
  refine fn_cw tv40 Tryz.func96 rfl Tryz.ntmps96 rfl cb96 rfl rfl fun w N H hG => ?_
  have ls_l : ls.length ≤ 140737488355328 := w.1.1
  refine go tv40 19 rfl rfl trivial ?_
  refine loop (ι := Nat × Int) [0, 2, 9, 10] [] (fun ⟨k, n⟩ => [(3, .int .i64 n), (11, .int .i64 (k : Int))]) (fun ⟨k, n⟩ => []) (fun ⟨k, n⟩ => k ≤ ls.length ∧ n = ((ls.take k).flatten.length : Int)) (fun ⟨k, n⟩ => ls.length - k) ⟨0, 0⟩ ⟨rfl, rfl, trivial⟩ trivial ?_ ?_
  · exact ⟨Nat.zero_le _, by simp⟩
  rintro ⟨k, n⟩ hp1
  obtain ⟨hk1, hk2⟩ := hp1
  have hg0 := flat_le ls k
  refine go tv40 6 rfl rfl trivial ?_
  refine cnd rfl (fun h2 => ?_) (fun h2 => ?_)
  · have p3 := dt h2
    obtain ⟨c4, hc5⟩ := getE (xs := ls) (m := k) (by omega)
    refine go tv40 6 rfl rfl trivial ?_
    refine q1 (qidx tv40 k rfl rfl rfl hc5 rfl rfl rfl rfl) rfl fun w6 => ?_
    refine go tv40 19 rfl rfl ⟨(by have hg := flat_le ls (k + 1); have hfl := congrArg List.length (flat_step (by assumption : ls[k]? = some _)); simp only [List.length_append] at hfl; omega), trivial⟩ ?_
    refine cnd rfl (fun h7 => ?_) (fun h7 => ?_)
    · have p8 := dt h7
      exfalso; omega
    have p9 := df h7
    refine go tv40 7 rfl rfl ⟨(by have hg := flat_le ls (k + 1); have hfl := congrArg List.length (flat_step (by assumption : ls[k]? = some _)); simp only [List.length_append] at hfl; omega), trivial⟩ ?_
    refine next ⟨(k + 1), (n + (c4.length : Int))⟩ rfl rfl ⟨rfl, rfl, trivial⟩ trivial ?_ ?_
    · (try simp only []); omega
    have hf := flat_step hc5
    have hg := flat_le ls (k + 1)
    have hfl := congrArg List.length hf
    simp only [List.length_append] at hfl
    exact ⟨by omega, by (try simp only []); omega⟩
  have p10 := df h2
  refine go tv40 8 rfl rfl trivial ?_
  refine ef (ecallo 0 (grow_Taker _ (by omega)) rfl rfl fun u12 w11 => ?_)
  refine go tv40 12 rfl rfl trivial ?_
  refine sw_osl (t := 6) 0 rfl rfl ?_
  refine loop (ι := Nat × (List TakerR) × Value) [0, 2, 3, 9, 10, 11, 12, 23, 24, 25, 26] [] (fun ⟨k, out, u_out⟩ => [(6, .osl 0), (27, .int .i64 (k : Int))]) (fun ⟨k, out, u_out⟩ => [(0, .arr u_out 2 151 TakerR.pc out)]) (fun ⟨k, out, u_out⟩ => k ≤ ls.length ∧ out = (ls.take k).flatten) (fun ⟨k, out, u_out⟩ => ls.length - k) ⟨0, ([] : List TakerR), (u12)⟩ ⟨rfl, rfl, trivial⟩ ⟨rfl, trivial⟩ ?_ ?_
  · exact ⟨Nat.zero_le _, by simp⟩
  rintro ⟨k, out, u_out⟩ hp13
  obtain ⟨hk1, hk2⟩ := hp13
  refine go tv40 6 rfl rfl trivial ?_
  refine cnd rfl (fun h14 => ?_) (fun h14 => ?_)
  · have p15 := dt h14
    obtain ⟨c16, hc17⟩ := getE (xs := ls) (m := k) (by omega)
    refine go tv40 6 rfl rfl trivial ?_
    refine q1 (qidx tv40 k rfl rfl rfl hc17 rfl rfl rfl rfl) rfl fun w18 => ?_
    refine go tv40 7 rfl rfl trivial ?_
    refine ef (app tv40 c16 rfl rfl rfl rfl rfl rfl rfl rfl rfl (src_l rfl (fun _ => rfl)) (by have hg := flat_le ls (k + 1); have hfl := congrArg List.length (flat_step (by assumption : ls[k]? = some _)); simp only [List.length_append] at hfl; subst hk2; (try simp only []); omega) rfl fun u19 => ?_)
    refine go tv40 8 rfl rfl ⟨(by have hg := flat_le ls (k + 1); have hfl := congrArg List.length (flat_step (by assumption : ls[k]? = some _)); simp only [List.length_append] at hfl; omega), trivial⟩ ?_
    refine next ⟨(k + 1), (out ++ c16), (u19)⟩ rfl rfl ⟨rfl, rfl, trivial⟩ ⟨rfl, trivial⟩ ?_ ?_
    · (try simp only []); omega
    exact ⟨by omega, by (try simp only []); rw [flat_step hc17, hk2]⟩
  have p20 := df h14
  refine go tv40 11 rfl rfl trivial ?_
  refine givec 0 rfl ?_
  refine go tv40 1 rfl rfl trivial ?_
  refine rt1 rfl rfl ?_
  refine ple ?_
  rw [hk2, flat_full (by omega)]
theorem clone_Taker (s : List TakerR) (hl : s.length ≤ 100000000) : Fn Tryz.prog gb 115 [.sl TakerR.pc s] (.sl TakerR.pc s) := by
  refine fn_cw tv40 Tryz.func115 rfl Tryz.ntmps115 rfl cb115 rfl rfl fun w N H hG => ?_
  have s_l : s.length ≤ 140737488355328 := w.1.1
  refine go tv40 9 rfl rfl trivial ?_
  refine ef (lnil tv40 rfl rfl rfl rfl rfl fun b1 hb2 => ?_)
  refine go tv40 2 rfl rfl trivial ?_
  refine cnd rfl (fun h3 => ?_) (fun h3 => ?_)
  · refine go tv40 7 rfl rfl trivial ?_
    refine rt1 rfl rfl ?_
    refine ple_nilx ?_
    exact hb2 (by assumption)
  refine go tv40 4 rfl rfl trivial ?_
  refine ef (bsl 0 TakerR.pc [] tv40 rfl rfl rfl rfl rfl (fun _ => rfl) rfl (by decide) (by decide) rfl fun u4 => ?_)
  refine go tv40 1 rfl rfl trivial ?_
  refine ef (app tv40 s rfl rfl rfl rfl rfl rfl rfl rfl rfl (src_l rfl (fun _ => rfl)) (by first | omega | (simp; omega)) rfl fun u5 => ?_)
  refine go tv40 3 rfl rfl trivial ?_
  refine givec 0 rfl ?_
  refine go tv40 1 rfl rfl trivial ?_
  refine rt1 rfl rfl ?_
  refine ple ?_
  simp
theorem idxF_Taker (s : List TakerR) (f : FuncId) (f_fst f_cap : List PV) (f_p : TakerR → Bool) (f_h : ∀ x, Fn Tryz.prog gb f (argsP.apL f_fst ((.agg (TakerR.pc x)) :: f_cap)) (.bool (f_p x))) : Fn Tryz.prog gb 135 [.sl TakerR.pc s, .fn f f_fst f_cap] (.int .i64 (idxP f_p s)) := by
  refine fn_cw tv40 Tryz.func135 rfl Tryz.ntmps135 rfl cb135 rfl rfl fun w N H hG => ?_
  have s_l : s.length ≤ 140737488355328 := w.1.1
  refine go tv40 14 rfl rfl trivial ?_
  refine loop (ι := Nat) [0, 1, 6, 7] [] (fun k => [(8, .int .i64 (k : Int))]) (fun k => []) (fun k => k ≤ s.length ∧ idxP f_p s = idxF f_p k (s.drop k)) (fun k => s.length - k) 0 ⟨rfl, trivial⟩ trivial ?_ ?_
  · exact ⟨Nat.zero_le _, rfl⟩
  rintro k hp1
  obtain ⟨hk1, hk2⟩ := hp1
  refine go tv40 6 rfl rfl trivial ?_
  refine cnd rfl (fun h2 => ?_) (fun h2 => ?_)
  · have p3 := dt h2
    obtain ⟨c4, hc5⟩ := getE (xs := s) (m := k) (by omega)
    refine go tv40 15 rfl rfl trivial ?_
    refine q1 (qidx tv40 k rfl rfl rfl hc5 rfl rfl rfl rfl) rfl fun w6 => ?_
    refine go tv40 1 rfl rfl trivial ?_
    refine call (f_h c4) rfl rfl fun w7 => ?_
    refine go tv40 2 rfl rfl trivial ?_
    refine cnd rfl (fun h8 => ?_) (fun h8 => ?_)
    · refine go tv40 12 rfl rfl trivial ?_
      refine rt1 rfl rfl ?_
      refine ple ?_
      exact congrArg (PV.int .i64) (idx_hit hk2 (dropE hc5) (by assumption)).symm
    refine go tv40 7 rfl rfl ⟨(by omega), trivial⟩ ?_
    refine next (k + 1) rfl rfl ⟨rfl, trivial⟩ trivial ?_ ?_
    · omega
    exact ⟨by omega, idx_miss hk2 (dropE hc5) (by assumption)⟩
  have p9 := df h2
  refine go tv40 11 rfl rfl trivial ?_
  refine rt1 rfl rfl ?_
  refine ple ?_
  exact congrArg (PV.int .i64) (idx_end hk2 (by omega)).symm
theorem grow_Lent (n : Int) (hn : 0 ≤ n ∧ n ≤ 100000000) : Fo Tryz.prog gb 92 [.val (.slice none 0 0), .int .i64 n] (fun u => .val u) 2 39 LentR.pc ([] : List LentR) := by
  refine fo_cw tv40 Tryz.func92 rfl Tryz.ntmps92 rfl cb92 (fun _ => rfl) rfl fun w N H hG => ?_
  have n_r : -9223372036854775808 ≤ n ∧ n ≤ 9223372036854775807 := w.2.1
  refine go tv40 12 rfl rfl trivial ?_
  refine cnd rfl (fun h1 => ?_) (fun h1 => ?_)
  · have p2 := dt h1
    exfalso; omega
  have p3 := df h1
  refine go tv40 7 rfl rfl trivial ?_
  refine q1 (qcap0 tv40 rfl rfl rfl) rfl fun w4 => ?_
  refine go tv40 1 rfl rfl trivial ?_
  refine q1 (qlen0 tv40 rfl rfl rfl) rfl fun w5 => ?_
  refine go tv40 11 rfl rfl ⟨(by omega), (by omega), trivial⟩ ?_
  refine cnd rfl (fun h6 => ?_) (fun h6 => ?_)
  · have p7 := dt h6
    refine go tv40 3 rfl rfl trivial ?_
    refine q1 (qcap0 tv40 rfl rfl rfl) rfl fun w8 => ?_
    refine q1 (qcut0 tv40 rfl rfl rfl rfl rfl (by omega)) rfl fun w9 => ?_
    refine go tv40 1 rfl rfl trivial ?_
    refine ef (appz (m := ((n - (0 - 0))).toNat) 0 tv40 rfl rfl rfl rfl rfl rfl rfl rfl rfl rfl (by omega) (by omega) (by (try simp only []); omega) rfl rfl fun u10 => ?_)
    refine go tv40 1 rfl rfl trivial ?_
    refine q1 (qlen0 tv40 rfl rfl rfl) rfl fun w11 => ?_
    refine ef (ocut LentR.pc tv40 rfl rfl rfl rfl rfl rfl (by omega) rfl fun u12 => ?_)
    refine go tv40 9 rfl rfl trivial ?_
    refine sw_val (t := 4) (i := 0) rfl rfl ?_
    refine go tv40 1 rfl rfl trivial ?_
    refine ro1 (j := 0) rfl rfl rfl ?_
    rfl
  have p13 := df h6
  refine go tv40 8 rfl rfl trivial ?_
  refine sw_own (t := 4) (k := 2) (e := 39) 0 LentR.pc rfl rfl ?_
  refine sw_val (t := 4) (i := 0) rfl rfl ?_
  refine go tv40 1 rfl rfl trivial ?_
  refine ro1 (j := 0) rfl rfl rfl ?_
  rfl
theorem concat_Lent (ls : List (List LentR)) (hl : ls.flatten.length ≤ 100000000) : Fn Tryz.prog gb 40 [.sl (slc LentR.pc) ls] (.sl LentR.pc ls.flatten) := by
  refine fn_cw tv40 Tryz.func40 rfl Tryz.ntmps40 rfl cb40 rfl rfl fun w N H hG => ?_
  have ls_l : ls.length ≤ 140737488355328 := w.1.1
  refine go tv40 19 rfl rfl trivial ?_
  refine loop (ι := Nat × Int) [0, 2, 9, 10] [] (fun ⟨k, n⟩ => [(3, .int .i64 n), (11, .int .i64 (k : Int))]) (fun ⟨k, n⟩ => []) (fun ⟨k, n⟩ => k ≤ ls.length ∧ n = ((ls.take k).flatten.length : Int)) (fun ⟨k, n⟩ => ls.length - k) ⟨0, 0⟩ ⟨rfl, rfl, trivial⟩ trivial ?_ ?_
  · exact ⟨Nat.zero_le _, by simp⟩
  rintro ⟨k, n⟩ hp1
  obtain ⟨hk1, hk2⟩ := hp1
  have hg0 := flat_le ls k
  refine go tv40 6 rfl rfl trivial ?_
  refine cnd rfl (fun h2 => ?_) (fun h2 => ?_)
  · have p3 := dt h2
    obtain ⟨c4, hc5⟩ := getE (xs := ls) (m := k) (by omega)
    refine go tv40 6 rfl rfl trivial ?_
    refine q1 (qidx tv40 k rfl rfl rfl hc5 rfl rfl rfl rfl) rfl fun w6 => ?_
    refine go tv40 19 rfl rfl ⟨(by have hg := flat_le ls (k + 1); have hfl := congrArg List.length (flat_step (by assumption : ls[k]? = some _)); simp only [List.length_append] at hfl; omega), trivial⟩ ?_
    refine cnd rfl (fun h7 => ?_) (fun h7 => ?_)
    · have p8 := dt h7
      exfalso; omega
    have p9 := df h7
    refine go tv40 7 rfl rfl ⟨(by have hg := flat_le ls (k + 1); have hfl := congrArg List.length (flat_step (by assumption : ls[k]? = some _)); simp only [List.length_append] at hfl; omega), trivial⟩ ?_
    refine next ⟨(k + 1), (n + (c4.length : Int))⟩ rfl rfl ⟨rfl, rfl, trivial⟩ trivial ?_ ?_
    · (try simp only []); omega
    have hf := flat_step hc5
    have hg := flat_le ls (k + 1)
    have hfl := congrArg List.length hf
    simp only [List.length_append] at hfl
    exact ⟨by omega, by (try simp only []); omega⟩
  have p10 := df h2
  refine go tv40 8 rfl rfl trivial ?_
  refine ef (ecallo 0 (grow_Lent _ (by omega)) rfl rfl fun u12 w11 => ?_)
  refine go tv40 12 rfl rfl trivial ?_
  refine sw_osl (t := 6) 0 rfl rfl ?_
  refine loop (ι := Nat × (List LentR) × Value) [0, 2, 3, 9, 10, 11, 12, 23, 24, 25, 26] [] (fun ⟨k, out, u_out⟩ => [(6, .osl 0), (27, .int .i64 (k : Int))]) (fun ⟨k, out, u_out⟩ => [(0, .arr u_out 2 39 LentR.pc out)]) (fun ⟨k, out, u_out⟩ => k ≤ ls.length ∧ out = (ls.take k).flatten) (fun ⟨k, out, u_out⟩ => ls.length - k) ⟨0, ([] : List LentR), (u12)⟩ ⟨rfl, rfl, trivial⟩ ⟨rfl, trivial⟩ ?_ ?_
  · exact ⟨Nat.zero_le _, by simp⟩
  rintro ⟨k, out, u_out⟩ hp13
  obtain ⟨hk1, hk2⟩ := hp13
  refine go tv40 6 rfl rfl trivial ?_
  refine cnd rfl (fun h14 => ?_) (fun h14 => ?_)
  · have p15 := dt h14
    obtain ⟨c16, hc17⟩ := getE (xs := ls) (m := k) (by omega)
    refine go tv40 6 rfl rfl trivial ?_
    refine q1 (qidx tv40 k rfl rfl rfl hc17 rfl rfl rfl rfl) rfl fun w18 => ?_
    refine go tv40 7 rfl rfl trivial ?_
    refine ef (app tv40 c16 rfl rfl rfl rfl rfl rfl rfl rfl rfl (src_l rfl (fun _ => rfl)) (by have hg := flat_le ls (k + 1); have hfl := congrArg List.length (flat_step (by assumption : ls[k]? = some _)); simp only [List.length_append] at hfl; subst hk2; (try simp only []); omega) rfl fun u19 => ?_)
    refine go tv40 8 rfl rfl ⟨(by have hg := flat_le ls (k + 1); have hfl := congrArg List.length (flat_step (by assumption : ls[k]? = some _)); simp only [List.length_append] at hfl; omega), trivial⟩ ?_
    refine next ⟨(k + 1), (out ++ c16), (u19)⟩ rfl rfl ⟨rfl, rfl, trivial⟩ ⟨rfl, trivial⟩ ?_ ?_
    · (try simp only []); omega
    exact ⟨by omega, by (try simp only []); rw [flat_step hc17, hk2]⟩
  have p20 := df h14
  refine go tv40 11 rfl rfl trivial ?_
  refine givec 0 rfl ?_
  refine go tv40 1 rfl rfl trivial ?_
  refine rt1 rfl rfl ?_
  refine ple ?_
  rw [hk2, flat_full (by omega)]
theorem clone_Lent (s : List LentR) (hl : s.length ≤ 100000000) : Fn Tryz.prog gb 60 [.sl LentR.pc s] (.sl LentR.pc s) := by
  refine fn_cw tv40 Tryz.func60 rfl Tryz.ntmps60 rfl cb60 rfl rfl fun w N H hG => ?_
  have s_l : s.length ≤ 140737488355328 := w.1.1
  refine go tv40 9 rfl rfl trivial ?_
  refine ef (lnil tv40 rfl rfl rfl rfl rfl fun b1 hb2 => ?_)
  refine go tv40 2 rfl rfl trivial ?_
  refine cnd rfl (fun h3 => ?_) (fun h3 => ?_)
  · refine go tv40 7 rfl rfl trivial ?_
    refine rt1 rfl rfl ?_
    refine ple_nilx ?_
    exact hb2 (by assumption)
  refine go tv40 4 rfl rfl trivial ?_
  refine ef (bsl 0 LentR.pc [] tv40 rfl rfl rfl rfl rfl (fun _ => rfl) rfl (by decide) (by decide) rfl fun u4 => ?_)
  refine go tv40 1 rfl rfl trivial ?_
  refine ef (app tv40 s rfl rfl rfl rfl rfl rfl rfl rfl rfl (src_l rfl (fun _ => rfl)) (by first | omega | (simp; omega)) rfl fun u5 => ?_)
  refine go tv40 3 rfl rfl trivial ?_
  refine givec 0 rfl ?_
  refine go tv40 1 rfl rfl trivial ?_
  refine rt1 rfl rfl ?_
  refine ple ?_
  simp
theorem index_Lent (l : List LentR) (x : LentR) : Fn Tryz.prog gb 42 [.sl LentR.pc l, .agg (LentR.pc x)] (.int .i64 (idxP (fun y => decide (x = y)) l)) := by
  refine fn_cw tv40 Tryz.func42 rfl Tryz.ntmps42 rfl cb42 rfl rfl fun w N H hG => ?_
  have l_l : l.length ≤ 140737488355328 := w.1.1
  refine go tv40 2 rfl rfl trivial ?_
  refine ef (boxA 0 rfl rfl rfl fun b1 => ?_)
  refine go tv40 12 rfl rfl trivial ?_
  refine loop (ι := Nat) [0, 1, 3, 6, 7] [0] (fun k => [(8, .int .i64 (k : Int))]) (fun k => []) (fun k => k ≤ l.length ∧ idxP (fun y => decide (x = y)) l = idxF (fun y => decide (x = y)) k (l.drop k)) (fun k => l.length - k) 0 ⟨rfl, trivial⟩ trivial ?_ ?_
  · exact ⟨Nat.zero_le _, rfl⟩
  rintro k hp2
  obtain ⟨hik1, hik2⟩ := hp2
  refine go tv40 6 rfl rfl trivial ?_
  refine cnd rfl (fun h3 => ?_) (fun h3 => ?_)
  · have p4 := dt h3
    refine go tv40 11 rfl rfl trivial ?_
    refine any [1, 2, 3, 4, 5, 6] 6 mixd rfl ?_
    refine gov tv40 [0, 1, 2] 3 rfl (by kernel_rfl) rfl rfl trivial ?_
    obtain ⟨c5, hc6⟩ := getE (xs := l) (m := k) (by omega)
    refine vq 3 (qidx tv40 k rfl rfl rfl hc6 rfl rfl rfl rfl) rfl (by kernel_rfl) rfl fun w7 => ?_
    refine gov tv40 [4] 1 rfl (by kernel_rfl) rfl rfl trivial ?_
    refine vq 5 (saeq rfl rfl eqg39 (veq39 x c5)) rfl (by kernel_rfl) rfl fun w8 => ?_
    refine vdone (by kernel_rfl) ?_
    refine go tv40 1 rfl rfl trivial ?_
    refine cnd rfl (fun h9 => ?_) (fun h9 => ?_)
    · have p10 := dt h9
      refine go tv40 12 rfl rfl trivial ?_
      refine rt1 rfl rfl ?_
      refine ple ?_
      exact congrArg (PV.int .i64) (idx_hit hik2 (dropE hc6) (by first | assumption | (simp [*]; done))).symm
    have p11 := df h9
    refine go tv40 7 rfl rfl ⟨(by omega), trivial⟩ ?_
    refine next (k + 1) rfl rfl ⟨rfl, trivial⟩ trivial ?_ ?_
    · omega
    exact ⟨by omega, idx_miss hik2 (dropE hc6) (by first | assumption | (simp [*]; done) | grind)⟩
  have p12 := df h3
  refine go tv40 11 rfl rfl trivial ?_
  refine rt1 rfl rfl ?_
  refine ple ?_
  exact congrArg (PV.int .i64) (idx_end hik2 (by omega)).symm
theorem grow_Shop (n : Int) (hn : 0 ≤ n ∧ n ≤ 100000000) : Fo Tryz.prog gb 279 [.val (.slice none 0 0), .int .i64 n] (fun u => .val u) 3 44 ShopR.pc ([] : List ShopR) := by
  refine fo_cw tv40 Tryz.func279 rfl Tryz.ntmps279 rfl cb279 (fun _ => rfl) rfl fun w N H hG => ?_
  have n_r : -9223372036854775808 ≤ n ∧ n ≤ 9223372036854775807 := w.2.1
  refine go tv40 12 rfl rfl trivial ?_
  refine cnd rfl (fun h1 => ?_) (fun h1 => ?_)
  · have p2 := dt h1
    exfalso; omega
  have p3 := df h1
  refine go tv40 7 rfl rfl trivial ?_
  refine q1 (qcap0 tv40 rfl rfl rfl) rfl fun w4 => ?_
  refine go tv40 1 rfl rfl trivial ?_
  refine q1 (qlen0 tv40 rfl rfl rfl) rfl fun w5 => ?_
  refine go tv40 11 rfl rfl ⟨(by omega), (by omega), trivial⟩ ?_
  refine cnd rfl (fun h6 => ?_) (fun h6 => ?_)
  · have p7 := dt h6
    refine go tv40 3 rfl rfl trivial ?_
    refine q1 (qcap0 tv40 rfl rfl rfl) rfl fun w8 => ?_
    refine q1 (qcut0 tv40 rfl rfl rfl rfl rfl (by omega)) rfl fun w9 => ?_
    refine go tv40 1 rfl rfl trivial ?_
    refine ef (appz (m := ((n - (0 - 0))).toNat) 0 tv40 rfl rfl rfl rfl rfl rfl rfl rfl rfl rfl (by omega) (by omega) (by (try simp only []); omega) rfl rfl fun u10 => ?_)
    refine go tv40 1 rfl rfl trivial ?_
    refine q1 (qlen0 tv40 rfl rfl rfl) rfl fun w11 => ?_
    refine ef (ocut ShopR.pc tv40 rfl rfl rfl rfl rfl rfl (by omega) rfl fun u12 => ?_)
    refine go tv40 9 rfl rfl trivial ?_
    refine sw_val (t := 4) (i := 0) rfl rfl ?_
    refine go tv40 1 rfl rfl trivial ?_
    refine ro1 (j := 0) rfl rfl rfl ?_
    rfl
  have p13 := df h6
  refine go tv40 8 rfl rfl trivial ?_
  refine sw_own (t := 4) (k := 3) (e := 44) 0 ShopR.pc rfl rfl ?_
  refine sw_val (t := 4) (i := 0) rfl rfl ?_
  refine go tv40 1 rfl rfl trivial ?_
  refine ro1 (j := 0) rfl rfl rfl ?_
  rfl
theorem concat_Shop (ls : List (List ShopR)) (hl : ls.flatten.length ≤ 100000000) : Fn Tryz.prog gb 268 [.sl (slc ShopR.pc) ls] (.sl ShopR.pc ls.flatten) := by
  refine fn_cw tv40 Tryz.func268 rfl Tryz.ntmps268 rfl cb268 rfl rfl fun w N H hG => ?_
  have ls_l : ls.length ≤ 140737488355328 := w.1.1
  refine go tv40 19 rfl rfl trivial ?_
  refine loop (ι := Nat × Int) [0, 2, 9, 10] [] (fun ⟨k, n⟩ => [(3, .int .i64 n), (11, .int .i64 (k : Int))]) (fun ⟨k, n⟩ => []) (fun ⟨k, n⟩ => k ≤ ls.length ∧ n = ((ls.take k).flatten.length : Int)) (fun ⟨k, n⟩ => ls.length - k) ⟨0, 0⟩ ⟨rfl, rfl, trivial⟩ trivial ?_ ?_
  · exact ⟨Nat.zero_le _, by simp⟩
  rintro ⟨k, n⟩ hp1
  obtain ⟨hk1, hk2⟩ := hp1
  have hg0 := flat_le ls k
  refine go tv40 6 rfl rfl trivial ?_
  refine cnd rfl (fun h2 => ?_) (fun h2 => ?_)
  · have p3 := dt h2
    obtain ⟨c4, hc5⟩ := getE (xs := ls) (m := k) (by omega)
    refine go tv40 6 rfl rfl trivial ?_
    refine q1 (qidx tv40 k rfl rfl rfl hc5 rfl rfl rfl rfl) rfl fun w6 => ?_
    refine go tv40 19 rfl rfl ⟨(by have hg := flat_le ls (k + 1); have hfl := congrArg List.length (flat_step (by assumption : ls[k]? = some _)); simp only [List.length_append] at hfl; omega), trivial⟩ ?_
    refine cnd rfl (fun h7 => ?_) (fun h7 => ?_)
    · have p8 := dt h7
      exfalso; omega
    have p9 := df h7
    refine go tv40 7 rfl rfl ⟨(by have hg := flat_le ls (k + 1); have hfl := congrArg List.length (flat_step (by assumption : ls[k]? = some _)); simp only [List.length_append] at hfl; omega), trivial⟩ ?_
    refine next ⟨(k + 1), (n + (c4.length : Int))⟩ rfl rfl ⟨rfl, rfl, trivial⟩ trivial ?_ ?_
    · (try simp only []); omega
    have hf := flat_step hc5
    have hg := flat_le ls (k + 1)
    have hfl := congrArg List.length hf
    simp only [List.length_append] at hfl
    exact ⟨by omega, by (try simp only []); omega⟩
  have p10 := df h2
  refine go tv40 8 rfl rfl trivial ?_
  refine ef (ecallo 0 (grow_Shop _ (by omega)) rfl rfl fun u12 w11 => ?_)
  refine go tv40 12 rfl rfl trivial ?_
  refine sw_osl (t := 6) 0 rfl rfl ?_
  refine loop (ι := Nat × (List ShopR) × Value) [0, 2, 3, 9, 10, 11, 12, 23, 24, 25, 26] [] (fun ⟨k, out, u_out⟩ => [(6, .osl 0), (27, .int .i64 (k : Int))]) (fun ⟨k, out, u_out⟩ => [(0, .arr u_out 3 44 ShopR.pc out)]) (fun ⟨k, out, u_out⟩ => k ≤ ls.length ∧ out = (ls.take k).flatten) (fun ⟨k, out, u_out⟩ => ls.length - k) ⟨0, ([] : List ShopR), (u12)⟩ ⟨rfl, rfl, trivial⟩ ⟨rfl, trivial⟩ ?_ ?_
  · exact ⟨Nat.zero_le _, by simp⟩
  rintro ⟨k, out, u_out⟩ hp13
  obtain ⟨hk1, hk2⟩ := hp13
  refine go tv40 6 rfl rfl trivial ?_
  refine cnd rfl (fun h14 => ?_) (fun h14 => ?_)
  · have p15 := dt h14
    obtain ⟨c16, hc17⟩ := getE (xs := ls) (m := k) (by omega)
    refine go tv40 6 rfl rfl trivial ?_
    refine q1 (qidx tv40 k rfl rfl rfl hc17 rfl rfl rfl rfl) rfl fun w18 => ?_
    refine go tv40 7 rfl rfl trivial ?_
    refine ef (app tv40 c16 rfl rfl rfl rfl rfl rfl rfl rfl rfl (src_l rfl (fun _ => rfl)) (by have hg := flat_le ls (k + 1); have hfl := congrArg List.length (flat_step (by assumption : ls[k]? = some _)); simp only [List.length_append] at hfl; subst hk2; (try simp only []); omega) rfl fun u19 => ?_)
    refine go tv40 8 rfl rfl ⟨(by have hg := flat_le ls (k + 1); have hfl := congrArg List.length (flat_step (by assumption : ls[k]? = some _)); simp only [List.length_append] at hfl; omega), trivial⟩ ?_
    refine next ⟨(k + 1), (out ++ c16), (u19)⟩ rfl rfl ⟨rfl, rfl, trivial⟩ ⟨rfl, trivial⟩ ?_ ?_
    · (try simp only []); omega
    exact ⟨by omega, by (try simp only []); rw [flat_step hc17, hk2]⟩
  have p20 := df h14
  refine go tv40 11 rfl rfl trivial ?_
  refine givec 0 rfl ?_
  refine go tv40 1 rfl rfl trivial ?_
  refine rt1 rfl rfl ?_
  refine ple ?_
  rw [hk2, flat_full (by omega)]
theorem grow_Bind (n : Int) (hn : 0 ≤ n ∧ n ≤ 100000000) : Fo Tryz.prog gb 282 [.val (.slice none 0 0), .int .i64 n] (fun u => .val u) 6 49 BindR.pc ([] : List BindR) := by
  refine fo_cw tv40 Tryz.func282 rfl Tryz.ntmps282 rfl cb282 (fun _ => rfl) rfl fun w N H hG => ?_
  have n_r : -9223372036854775808 ≤ n ∧ n ≤ 9223372036854775807 := w.2.1
  refine go tv40 12 rfl rfl trivial ?_
  refine cnd rfl (fun h1 => ?_) (fun h1 => ?_)
  · have p2 := dt h1
    exfalso; omega
  have p3 := df h1
  refine go tv40 7 rfl rfl trivial ?_
  refine q1 (qcap0 tv40 rfl rfl rfl) rfl fun w4 => ?_
  refine go tv40 1 rfl rfl trivial ?_
  refine q1 (qlen0 tv40 rfl rfl rfl) rfl fun w5 => ?_
  refine go tv40 11 rfl rfl ⟨(by omega), (by omega), trivial⟩ ?_
  refine cnd rfl (fun h6 => ?_) (fun h6 => ?_)
  · have p7 := dt h6
    refine go tv40 3 rfl rfl trivial ?_
    refine q1 (qcap0 tv40 rfl rfl rfl) rfl fun w8 => ?_
    refine q1 (qcut0 tv40 rfl rfl rfl rfl rfl (by omega)) rfl fun w9 => ?_
    refine go tv40 1 rfl rfl trivial ?_
    refine ef (appz (m := ((n - (0 - 0))).toNat) 0 tv40 rfl rfl rfl rfl rfl rfl rfl rfl rfl rfl (by omega) (by omega) (by (try simp only []); omega) rfl rfl fun u10 => ?_)
    refine go tv40 1 rfl rfl trivial ?_
    refine q1 (qlen0 tv40 rfl rfl rfl) rfl fun w11 => ?_
    refine ef (ocut BindR.pc tv40 rfl rfl rfl rfl rfl rfl (by omega) rfl fun u12 => ?_)
    refine go tv40 9 rfl rfl trivial ?_
    refine sw_val (t := 4) (i := 0) rfl rfl ?_
    refine go tv40 1 rfl rfl trivial ?_
    refine ro1 (j := 0) rfl rfl rfl ?_
    rfl
  have p13 := df h6
  refine go tv40 8 rfl rfl trivial ?_
  refine sw_own (t := 4) (k := 6) (e := 49) 0 BindR.pc rfl rfl ?_
  refine sw_val (t := 4) (i := 0) rfl rfl ?_
  refine go tv40 1 rfl rfl trivial ?_
  refine ro1 (j := 0) rfl rfl rfl ?_
  rfl
theorem concat_Bind (ls : List (List BindR)) (hl : ls.flatten.length ≤ 100000000) : Fn Tryz.prog gb 271 [.sl (slc BindR.pc) ls] (.sl BindR.pc ls.flatten) := by
  refine fn_cw tv40 Tryz.func271 rfl Tryz.ntmps271 rfl cb271 rfl rfl fun w N H hG => ?_
  have ls_l : ls.length ≤ 140737488355328 := w.1.1
  refine go tv40 19 rfl rfl trivial ?_
  refine loop (ι := Nat × Int) [0, 2, 9, 10] [] (fun ⟨k, n⟩ => [(3, .int .i64 n), (11, .int .i64 (k : Int))]) (fun ⟨k, n⟩ => []) (fun ⟨k, n⟩ => k ≤ ls.length ∧ n = ((ls.take k).flatten.length : Int)) (fun ⟨k, n⟩ => ls.length - k) ⟨0, 0⟩ ⟨rfl, rfl, trivial⟩ trivial ?_ ?_
  · exact ⟨Nat.zero_le _, by simp⟩
  rintro ⟨k, n⟩ hp1
  obtain ⟨hk1, hk2⟩ := hp1
  have hg0 := flat_le ls k
  refine go tv40 6 rfl rfl trivial ?_
  refine cnd rfl (fun h2 => ?_) (fun h2 => ?_)
  · have p3 := dt h2
    obtain ⟨c4, hc5⟩ := getE (xs := ls) (m := k) (by omega)
    refine go tv40 6 rfl rfl trivial ?_
    refine q1 (qidx tv40 k rfl rfl rfl hc5 rfl rfl rfl rfl) rfl fun w6 => ?_
    refine go tv40 19 rfl rfl ⟨(by have hg := flat_le ls (k + 1); have hfl := congrArg List.length (flat_step (by assumption : ls[k]? = some _)); simp only [List.length_append] at hfl; omega), trivial⟩ ?_
    refine cnd rfl (fun h7 => ?_) (fun h7 => ?_)
    · have p8 := dt h7
      exfalso; omega
    have p9 := df h7
    refine go tv40 7 rfl rfl ⟨(by have hg := flat_le ls (k + 1); have hfl := congrArg List.length (flat_step (by assumption : ls[k]? = some _)); simp only [List.length_append] at hfl; omega), trivial⟩ ?_
    refine next ⟨(k + 1), (n + (c4.length : Int))⟩ rfl rfl ⟨rfl, rfl, trivial⟩ trivial ?_ ?_
    · (try simp only []); omega
    have hf := flat_step hc5
    have hg := flat_le ls (k + 1)
    have hfl := congrArg List.length hf
    simp only [List.length_append] at hfl
    exact ⟨by omega, by (try simp only []); omega⟩
  have p10 := df h2
  refine go tv40 8 rfl rfl trivial ?_
  refine ef (ecallo 0 (grow_Bind _ (by omega)) rfl rfl fun u12 w11 => ?_)
  refine go tv40 12 rfl rfl trivial ?_
  refine sw_osl (t := 6) 0 rfl rfl ?_
  refine loop (ι := Nat × (List BindR) × Value) [0, 2, 3, 9, 10, 11, 12, 23, 24, 25, 26] [] (fun ⟨k, out, u_out⟩ => [(6, .osl 0), (27, .int .i64 (k : Int))]) (fun ⟨k, out, u_out⟩ => [(0, .arr u_out 6 49 BindR.pc out)]) (fun ⟨k, out, u_out⟩ => k ≤ ls.length ∧ out = (ls.take k).flatten) (fun ⟨k, out, u_out⟩ => ls.length - k) ⟨0, ([] : List BindR), (u12)⟩ ⟨rfl, rfl, trivial⟩ ⟨rfl, trivial⟩ ?_ ?_
  · exact ⟨Nat.zero_le _, by simp⟩
  rintro ⟨k, out, u_out⟩ hp13
  obtain ⟨hk1, hk2⟩ := hp13
  refine go tv40 6 rfl rfl trivial ?_
  refine cnd rfl (fun h14 => ?_) (fun h14 => ?_)
  · have p15 := dt h14
    obtain ⟨c16, hc17⟩ := getE (xs := ls) (m := k) (by omega)
    refine go tv40 6 rfl rfl trivial ?_
    refine q1 (qidx tv40 k rfl rfl rfl hc17 rfl rfl rfl rfl) rfl fun w18 => ?_
    refine go tv40 7 rfl rfl trivial ?_
    refine ef (app tv40 c16 rfl rfl rfl rfl rfl rfl rfl rfl rfl (src_l rfl (fun _ => rfl)) (by have hg := flat_le ls (k + 1); have hfl := congrArg List.length (flat_step (by assumption : ls[k]? = some _)); simp only [List.length_append] at hfl; subst hk2; (try simp only []); omega) rfl fun u19 => ?_)
    refine go tv40 8 rfl rfl ⟨(by have hg := flat_le ls (k + 1); have hfl := congrArg List.length (flat_step (by assumption : ls[k]? = some _)); simp only [List.length_append] at hfl; omega), trivial⟩ ?_
    refine next ⟨(k + 1), (out ++ c16), (u19)⟩ rfl rfl ⟨rfl, rfl, trivial⟩ ⟨rfl, trivial⟩ ?_ ?_
    · (try simp only []); omega
    exact ⟨by omega, by (try simp only []); rw [flat_step hc17, hk2]⟩
  have p20 := df h14
  refine go tv40 11 rfl rfl trivial ?_
  refine givec 0 rfl ?_
  refine go tv40 1 rfl rfl trivial ?_
  refine rt1 rfl rfl ?_
  refine ple ?_
  rw [hk2, flat_full (by omega)]
end Go.SW.V
set_option linter.unusedVariables false
set_option maxRecDepth 100000
set_option maxHeartbeats 4000000
namespace Go.SW.V
open Go.SW Go.Proofs
theorem cb109 : Callable Tryz.prog 109 := callable_of Tryz.func109 (by kernel_rfl) (by kernel_rfl)
theorem cb136 : Callable Tryz.prog 136 := callable_of Tryz.func136 (by kernel_rfl) (by kernel_rfl)
theorem cb139 : Callable Tryz.prog 139 := callable_of Tryz.func139 (by kernel_rfl) (by kernel_rfl)
theorem cb141 : Callable Tryz.prog 141 := callable_of Tryz.func141 (by kernel_rfl) (by kernel_rfl)
theorem cb192 : Callable Tryz.prog 192 := callable_of Tryz.func192 (by kernel_rfl) (by kernel_rfl)
theorem cb36 : Callable Tryz.prog 36 := callable_of Tryz.func36 (by kernel_rfl) (by kernel_rfl)
theorem cb38 : Callable Tryz.prog 38 := callable_of Tryz.func38 (by kernel_rfl) (by kernel_rfl)
theorem cb41 : Callable Tryz.prog 41 := callable_of Tryz.func41 (by kernel_rfl) (by kernel_rfl)
theorem cb50 : Callable Tryz.prog 50 := callable_of Tryz.func50 (by kernel_rfl) (by kernel_rfl)
theorem cb52 : Callable Tryz.prog 52 := callable_of Tryz.func52 (by kernel_rfl) (by kernel_rfl)
theorem cb54 : Callable Tryz.prog 54 := callable_of Tryz.func54 (by kernel_rfl) (by kernel_rfl)
theorem cb58 : Callable Tryz.prog 58 := callable_of Tryz.func58 (by kernel_rfl) (by kernel_rfl)
theorem cb9 : Callable Tryz.prog 9 := callable_of Tryz.func9 (by kernel_rfl) (by kernel_rfl)
theorem cb94 : Callable Tryz.prog 94 := callable_of Tryz.func94 (by kernel_rfl) (by kernel_rfl)
theorem cb95 : Callable Tryz.prog 95 := callable_of Tryz.func95 (by kernel_rfl) (by kernel_rfl)
def tbv41 : Tb := [(3, ⟨.int .i64, 1, 8, [.int .i64 0]⟩),
  (4, ⟨.bool, 1, 1, [.bool false]⟩),
  (5, ⟨.int .u8, 1, 1, [.int .u8 0]⟩),
  (9, ⟨.str, 1, 16, [.str []]⟩),
  (25, ⟨.slc 151, 1, 24, [.sl TakerR.pc []]⟩),
  (26, ⟨.slc 39, 1, 24, [.sl LentR.pc []]⟩),
  (27, ⟨.int .u64, 1, 8, [.int .u64 0]⟩),
  (28, ⟨.slc 53, 1, 24, [.sl DeedR.pc []]⟩),
  (30, ⟨.agg [(0, 1)], 1, 24, [.sl DeedR.pc []]⟩),
  (32, ⟨.agg [(0, 1), (1, 1), (2, 1), (3, 1), (4, 1), (5, 1), (6, 1)], 7, 96, [.int .i64 0, .sl TakerR.pc [], .sl LentR.pc [], .bool false, .bool false, .int .u64 0, .sl DeedR.pc []]⟩),
  (47, ⟨.slc 199, 1, 24, [.sl Pair.pc []]⟩),
  (51, ⟨.agg [(0, 1), (1, 1), (2, 1), (3, 1), (4, 1), (5, 1), (6, 1)], 7, 96, [.int .u64 0, .str [], .str [], .sl Pair.pc [], .str [], .int .u64 0, .int .u8 0]⟩),
  (53, ⟨.agg [(0, 1), (1, 1), (2, 3), (5, 4), (9, 6), (15, 1), (16, 1), (17, 1), (18, 1), (19, 1), (20, 1), (21, 7), (28, 1)], 29, 344, [.int .u8 0, .int .u64 0, .str [], .int .u8 0, .str [], .str [], .int .u64 0, .int .u64 0, .str [], .str [], .str [], .bool false, .str [], .sl Pair.pc [], .bool false, .str [], .int .u64 0, .int .u8 0, .int .u8 0, .int .u8 0, .int .u64 0, .int .u64 0, .str [], .str [], .sl Pair.pc [], .str [], .int .u64 0, .int .u8 0, .str []]⟩),
  (56, ⟨.slc 126, 1, 24, [.sl LentR.pc []]⟩),
  (57, ⟨.slc 184, 1, 24, [.sl DeedR.pc []]⟩),
  (59, ⟨.agg [(0, 1), (1, 1), (2, 1), (3, 1), (4, 1), (5, 1), (6, 1)], 7, 96, [.int .i64 0, .sl TakerR.pc [], .sl LentR.pc [], .bool false, .bool false, .int .u64 0, .sl DeedR.pc []]⟩),
  (151, ⟨.agg [(0, 1), (1, 1)], 2, 24, [.int .u64 0, .str []]⟩),
  (184, ⟨.agg [(0, 1), (1, 1), (2, 3), (5, 4), (9, 6), (15, 1), (16, 1), (17, 1), (18, 1), (19, 1), (20, 1), (21, 7), (28, 1)], 29, 344, [.int .u8 0, .int .u64 0, .str [], .int .u8 0, .str [], .str [], .int .u64 0, .int .u64 0, .str [], .str [], .str [], .bool false, .str [], .sl Pair.pc [], .bool false, .str [], .int .u64 0, .int .u8 0, .int .u8 0, .int .u8 0, .int .u64 0, .int .u64 0, .str [], .str [], .sl Pair.pc [], .str [], .int .u64 0, .int .u8 0, .str []]⟩)]
theorem tv41 : tbB Tryz.prog tbv41 = true := by kernel_rfl
theorem draft_Settles1_ok (d : DeedR) (x1 : Bs) (x2 : Int) : Fn Tryz.prog gb 94 [.agg (DeedR.pc d), .el [.str x1] 0, .el [.int .u64 x2] 0] (.bool (draft_Settles1 d x1 x2)) := by
  refine fn_cw tv41 Tryz.func94 rfl Tryz.ntmps94 rfl cb94 rfl rfl fun w N H hG => ?_
  have d_bind_want_l : d.bind.want.length ≤ 140737488355328 := w.1.2.2.2.2.2.2.2.2.2.2.2.2.2.1.1
  have d_mail_head_l : d.mail.head.length ≤ 140737488355328 := w.1.2.2.2.2.2.2.2.2.2.2.2.2.2.2.2.2.2.2.2.2.2.2.2.2.1.1
  have e0 := draft_Settles1.eq_1 d x1 x2
  refine go tv41 2 rfl rfl trivial ?_
  refine ef (boxA 0 rfl rfl rfl fun b1 => ?_)
  refine go tv41 24 rfl rfl ⟨(fun hc => hc), (fun hc => hc), (fun hc => hc), rfl, rfl, (fun hc => hc), (fun hc => hc), (fun hc => hc), rfl, rfl, trivial⟩ ?_
  exact rt1 rfl rfl (ple_of (fun r : Bool => .bool r) e0 (ple rfl))
theorem draft_Draft_Settles_ok (x : DraftR) (name : Bs) (id : Int) : Fn Tryz.prog gb 41 [.agg (DraftR.pc x), .str name, .int .u64 id] (.bool (draft_Draft_Settles x name id)) := by
  refine fn_cw tv41 Tryz.func41 rfl Tryz.ntmps41 rfl cb41 rfl rfl fun w N H hG => ?_
  have x_l_l : x.l.length ≤ 140737488355328 := w.1.1.1
  have name_l : name.length ≤ 9223372036854775807 := w.2.1
  have id_r : 0 ≤ id ∧ id ≤ 18446744073709551615 := w.2.2.1
  have e0 := draft_Draft_Settles.eq_1 x name id
  refine go tv41 2 rfl rfl trivial ?_
  refine ef (boxA 0 rfl rfl rfl fun b1 => ?_)
  refine ef (box1 1 rfl rfl rfl fun b2 => ?_)
  refine ef (box1 2 rfl rfl rfl fun b3 => ?_)
  refine go tv41 7 rfl rfl trivial ?_
  refine freeze (i := 1) (t := 4) rfl rfl rfl rfl ?_
  refine freeze (i := 2) (t := 5) rfl rfl rfl rfl ?_
  refine go tv41 1 rfl rfl trivial ?_
  refine call (cF_Deed _ _ _ _ (fun z_4 : DeedR => (draft_Settles1 z_4 name id)) (fun z_4 => draft_Settles1_ok z_4 name id)) rfl rfl fun w5 => ?_
  refine go tv41 4 rfl rfl trivial ?_
  exact rt1 rfl rfl (ple_of (fun r : Bool => .bool r) e0 (ple rfl))
theorem draft_clone_ok (d : DeedR) (hl : d.mail.head.length ≤ 1000000) : Fn Tryz.prog gb 141 [.agg (DeedR.pc d)] (.agg (DeedR.pc (draft_clone d))) := by
  refine fn_cw tv41 Tryz.func141 rfl Tryz.ntmps141 rfl cb141 rfl rfl fun w N H hG => ?_
  have d_bind_want_l : d.bind.want.length ≤ 140737488355328 := w.1.2.2.2.2.2.2.2.2.2.2.2.2.2.1.1
  have d_mail_head_l : d.mail.head.length ≤ 140737488355328 := w.1.2.2.2.2.2.2.2.2.2.2.2.2.2.2.2.2.2.2.2.2.2.2.2.2.1.1
  have e0 := draft_clone.eq_1 d
  refine go tv41 2 rfl rfl trivial ?_
  refine ef (boxA 0 rfl rfl rfl fun b1 => ?_)
  refine ef (alloc tv41 1 rfl rfl rfl rfl fun b2 => ?_)
  refine go tv41 7 rfl rfl trivial ?_
  refine call (clone_Pair _ (by first | omega | (simp; done) | (simp; omega))) rfl rfl fun w3 => ?_
  refine go tv41 2 rfl rfl trivial ?_
  refine ef (store1 tv41 rfl rfl rfl rfl rfl rfl rfl rfl rfl ?_)
  refine go tv41 5 rfl rfl trivial ?_
  refine ef (storeA tv41 rfl rfl rfl rfl rfl rfl rfl rfl rfl rfl ?_)
  refine go tv41 3 rfl rfl trivial ?_
  exact rt1 rfl rfl (ple_of (fun r : DeedR => .agg (DeedR.pc r)) e0 (ple rfl))
theorem draft_Draft_check_ok (x : DraftR) (d : DeedR) : Fn Tryz.prog gb 139 [.agg (DraftR.pc x), .agg (DeedR.pc d)] (.int .i64 (draft_Draft_check x d)) := by
  refine fn_cw tv41 Tryz.func139 rfl Tryz.ntmps139 rfl cb139 rfl rfl fun w N H hG => ?_
  have x_l_l : x.l.length ≤ 140737488355328 := w.1.1.1
  have d_bind_want_l : d.bind.want.length ≤ 140737488355328 := w.2.1.2.2.2.2.2.2.2.2.2.2.2.2.2.1.1
  have d_mail_head_l : d.mail.head.length ≤ 140737488355328 := w.2.1.2.2.2.2.2.2.2.2.2.2.2.2.2.2.2.2.2.2.2.2.2.2.2.2.1.1
  have e0 := draft_Draft_check.eq_1 x d
  refine go tv41 2 rfl rfl trivial ?_
  refine ef (boxA 0 rfl rfl rfl fun b1 => ?_)
  refine ef (boxA 1 rfl rfl rfl fun b2 => ?_)
  refine go tv41 4 rfl rfl trivial ?_
  obtain ⟨o, e_o, q_o⟩ := lp0_split e0
  refine joinc (ι := Unit) [2, 3] [0, 1] (fun _ => []) (fun _ => []) (fun _ => o = .fin ()) ?_ ?_
  · refine go tv41 14 rfl rfl trivial ?_
    refine cnd rfl (fun h3 => ?_) (fun h3 => ?_)
    · have p4 := dt h3
      have e5 := e_o.trans (condT h3)
      refine go tv41 2 rfl rfl trivial ?_
      refine cndT rfl h3 ?_
      refine go tv41 2 rfl rfl trivial ?_
      refine next () rfl rfl trivial trivial (by decide) ?_
      exact e5
    have p6 := df h3
    have e7 := e_o.trans (condF h3)
    refine go tv41 5 rfl rfl trivial ?_
    refine cnd rfl (fun h8 => ?_) (fun h8 => ?_)
    · have p9 := dt h8
      have e10 := e7.trans (condT h8)
      refine go tv41 2 rfl rfl trivial ?_
      refine next () rfl rfl trivial trivial (by decide) ?_
      exact e10
    have p11 := df h8
    have e12 := e7.trans (condF h8)
    refine go tv41 9 rfl rfl trivial ?_
    have e13 := lp0_ret q_o e12
    exact rt1 rfl rfl (ple_of (fun r : Int => .int .i64 r) e13 (ple rfl))
  rintro _ hp14
  have e15 := lp0_fin q_o hp14
  refine go tv41 5 rfl rfl trivial ?_
  refine call (deed_Check _) rfl rfl fun w16 => ?_
  have := deedE_r d
  refine go tv41 11 rfl rfl trivial ?_
  refine cnd rfl (fun h17 => ?_) (fun h17 => ?_)
  · have h18 := not_t h17
    have p19 := df h18
    have e20 := e15.trans (condT h17)
    refine go tv41 9 rfl rfl trivial ?_
    exact rt1 rfl rfl (ple_of (fun r : Int => .int .i64 r) e20 (ple rfl))
  have h21 := not_f h17
  have p22 := dt h21
  have e23 := e15.trans (condF h17)
  refine go tv41 11 rfl rfl ⟨(fun hc => hc), (fun hc => hc), trivial⟩ ?_
  refine callg rfl (fun hc => (draft_Draft_Settles_ok _ _ _)) rfl ⟨(fun hc => hc), (fun hc => hc), (fun hc => hc), trivial⟩ rfl rfl fun _ => ?_
  refine go tv41 4 rfl rfl ⟨rfl, rfl, trivial⟩ ?_
  refine cnd rfl (fun h24 => ?_) (fun h24 => ?_)
  · have h25 := bl h24
    have p26 := dt h25
    have h27 := br h24
    have e28 := e23.trans (condT h24)
    refine go tv41 8 rfl rfl trivial ?_
    exact rt1 rfl rfl (ple_of (fun r : Int => .int .i64 r) e28 (ple rfl))
  have e29 := e23.trans (condF h24)
  refine go tv41 9 rfl rfl trivial ?_
  refine cnd rfl (fun h30 => ?_) (fun h30 => ?_)
  · have p31 := dt h30
    have e32 := e29.trans (condT h30)
    refine go tv41 8 rfl rfl trivial ?_
    exact rt1 rfl rfl (ple_of (fun r : Int => .int .i64 r) e32 (ple rfl))
  have p33 := df h30
  have e34 := e29.trans (condF h30)
  refine go tv41 9 rfl rfl trivial ?_
  exact rt1 rfl rfl (ple_of (fun r : Int => .int .i64 r) e34 (ple rfl))
theorem chans_New_ok : Fn Tryz.prog gb 9 [] (.agg (ChanR.pc (chans_New))) := by
  refine fn_cw tv41 Tryz.func9 rfl Tryz.ntmps9 rfl cb9 rfl rfl fun w N H hG => ?_
  have e0 := chans_New.eq_1
  refine go tv41 2 rfl rfl trivial ?_
  refine ef (alloc tv41 0 rfl rfl rfl rfl fun b1 => ?_)
  refine go tv41 5 rfl rfl trivial ?_
  refine ef (storeA tv41 rfl rfl rfl rfl rfl rfl rfl rfl rfl rfl ?_)
  refine go tv41 3 rfl rfl trivial ?_
  exact rt1 rfl rfl (ple_of (fun r : ChanR => .agg (ChanR.pc r)) e0 (ple rfl))
theorem chans_Chan_Credit_ok (c : ChanR) (n : Int) : Fn Tryz.prog gb 36 [.agg (ChanR.pc c), .int .u64 n] (.tup [.agg (ChanR.pc ((chans_Chan_Credit c n).1)), .int .i64 ((chans_Chan_Credit c n).2)]) := by
  refine fn_cw tv41 Tryz.func36 rfl Tryz.ntmps36 rfl cb36 rfl rfl fun w N H hG => ?_
  have c_takers_l : c.takers.length ≤ 140737488355328 := w.1.2.1.1
  have c_lent_l : c.lent.length ≤ 140737488355328 := w.1.2.2.1.1
  have c_held_l_l : c.held.l.length ≤ 140737488355328 := w.1.2.2.2.2.2.2.1.1
  have n_r : 0 ≤ n ∧ n ≤ 18446744073709551615 := w.2.1
  have e0 := chans_Chan_Credit.eq_1 c n
  refine go tv41 2 rfl rfl trivial ?_
  refine ef (boxA 0 rfl rfl rfl fun b1 => ?_)
  refine ef (alloc tv41 1 rfl rfl rfl rfl fun b2 => ?_)
  refine go tv41 14 rfl rfl ⟨(fun hc => hc), rfl, rfl, trivial⟩ ?_
  refine cnd rfl (fun h3 => ?_) (fun h3 => ?_)
  · have e4 := e0.trans (condT h3)
    refine go tv41 3 rfl rfl trivial ?_
    refine ef (storeA tv41 rfl rfl rfl rfl rfl rfl rfl rfl rfl rfl ?_)
    refine go tv41 5 rfl rfl trivial ?_
    exact rt2 rfl rfl (ple_of (fun r : ChanR × Int => .tup [.agg (ChanR.pc r.1), .int .i64 r.2]) e4 (ple rfl))
  have h5 := orl h3
  have p6 := df h5
  have h7 := orr h3
  have p8 := df h7
  have e9 := e0.trans (condF h3)
  refine go tv41 7 rfl rfl trivial ?_
  refine ef (store1 tv41 rfl rfl rfl rfl rfl rfl rfl rfl rfl ?_)
  refine go tv41 5 rfl rfl trivial ?_
  refine ef (storeA tv41 rfl rfl rfl rfl rfl rfl rfl rfl rfl rfl ?_)
  refine go tv41 4 rfl rfl trivial ?_
  exact rt2 rfl rfl (ple_of (fun r : ChanR × Int => .tup [.agg (ChanR.pc r.1), .int .i64 r.2]) e9 (ple rfl))
theorem chans_Chan_Room_ok (c : ChanR) (hc : 0 ≤ c.credit ∧ c.credit ≤ 1000) : Fn Tryz.prog gb 38 [.agg (ChanR.pc c)] (.int .i64 (chans_Chan_Room c)) := by
  refine fn_cw tv41 Tryz.func38 rfl Tryz.ntmps38 rfl cb38 rfl rfl fun w N H hG => ?_
  have c_takers_l : c.takers.length ≤ 140737488355328 := w.1.2.1.1
  have c_lent_l : c.lent.length ≤ 140737488355328 := w.1.2.2.1.1
  have c_held_l_l : c.held.l.length ≤ 140737488355328 := w.1.2.2.2.2.2.2.1.1
  have e0 := chans_Chan_Room.eq_1 c
  refine go tv41 2 rfl rfl trivial ?_
  refine ef (boxA 0 rfl rfl rfl fun b1 => ?_)
  refine go tv41 16 rfl rfl ⟨(by omega), trivial⟩ ?_
  exact rt1 rfl rfl (ple_of (fun r : Int => .int .i64 r) e0 (ple rfl))
theorem chans_of1_ok (t : TakerR) (x1 : Int) : Fn Tryz.prog gb 136 [.agg (TakerR.pc t), .el [.int .u64 x1] 0] (.bool (chans_of1 t x1)) := by
  refine fn_cw tv41 Tryz.func136 rfl Tryz.ntmps136 rfl cb136 rfl rfl fun w N H hG => ?_
  have e0 := chans_of1.eq_1 t x1
  refine go tv41 2 rfl rfl trivial ?_
  refine ef (boxA 0 rfl rfl rfl fun b1 => ?_)
  refine go tv41 13 rfl rfl trivial ?_
  exact rt1 rfl rfl (ple_of (fun r : Bool => .bool r) e0 (ple rfl))
theorem chans_Chan_of_ok (c : ChanR) (tag : Int) : Fn Tryz.prog gb 95 [.agg (ChanR.pc c), .int .u64 tag] (.int .i64 (chans_Chan_of c tag)) := by
  refine fn_cw tv41 Tryz.func95 rfl Tryz.ntmps95 rfl cb95 rfl rfl fun w N H hG => ?_
  have c_takers_l : c.takers.length ≤ 140737488355328 := w.1.2.1.1
  have c_lent_l : c.lent.length ≤ 140737488355328 := w.1.2.2.1.1
  have c_held_l_l : c.held.l.length ≤ 140737488355328 := w.1.2.2.2.2.2.2.1.1
  have tag_r : 0 ≤ tag ∧ tag ≤ 18446744073709551615 := w.2.1
  have e0 := chans_Chan_of.eq_1 c tag
  refine go tv41 2 rfl rfl trivial ?_
  refine ef (boxA 0 rfl rfl rfl fun b1 => ?_)
  refine ef (box1 1 rfl rfl rfl fun b2 => ?_)
  refine go tv41 7 rfl rfl trivial ?_
  refine freeze (i := 1) (t := 3) rfl rfl rfl rfl ?_
  refine go tv41 1 rfl rfl trivial ?_
  refine call (idxF_Taker _ _ _ _ (fun z_3 : TakerR => (chans_of1 z_3 tag)) (fun z_3 => chans_of1_ok z_3 tag)) rfl rfl fun w4 => ?_
  have hix4 := idxP_b (fun z_3 : TakerR => (chans_of1 z_3 tag)) c.takers
  refine go tv41 4 rfl rfl trivial ?_
  exact rt1 rfl rfl (ple_of (fun r : Int => .int .i64 r) e0 (ple rfl))
theorem chans_Chan_Sure_ok (c : ChanR) : Fn Tryz.prog gb 50 [.agg (ChanR.pc c)] (.tup [.agg (ChanR.pc ((chans_Chan_Sure c).1)), .int .i64 ((chans_Chan_Sure c).2)]) := by
  refine fn_cw tv41 Tryz.func50 rfl Tryz.ntmps50 rfl cb50 rfl rfl fun w N H hG => ?_
  have c_takers_l : c.takers.length ≤ 140737488355328 := w.1.2.1.1
  have c_lent_l : c.lent.length ≤ 140737488355328 := w.1.2.2.1.1
  have c_held_l_l : c.held.l.length ≤ 140737488355328 := w.1.2.2.2.2.2.2.1.1
  have e0 := chans_Chan_Sure.eq_1 c
  refine go tv41 2 rfl rfl trivial ?_
  refine ef (boxA 0 rfl rfl rfl fun b1 => ?_)
  refine ef (alloc tv41 1 rfl rfl rfl rfl fun b2 => ?_)
  refine go tv41 10 rfl rfl trivial ?_
  refine cnd rfl (fun h3 => ?_) (fun h3 => ?_)
  · have e4 := e0.trans (condT h3)
    refine go tv41 3 rfl rfl trivial ?_
    refine ef (storeA tv41 rfl rfl rfl rfl rfl rfl rfl rfl rfl rfl ?_)
    refine go tv41 5 rfl rfl trivial ?_
    exact rt2 rfl rfl (ple_of (fun r : ChanR × Int => .tup [.agg (ChanR.pc r.1), .int .i64 r.2]) e4 (ple rfl))
  have e5 := e0.trans (condF h3)
  refine go tv41 5 rfl rfl trivial ?_
  refine ef (store1 tv41 rfl rfl rfl rfl rfl rfl rfl rfl rfl ?_)
  refine go tv41 5 rfl rfl trivial ?_
  refine ef (storeA tv41 rfl rfl rfl rfl rfl rfl rfl rfl rfl rfl ?_)
  refine go tv41 4 rfl rfl trivial ?_
  exact rt2 rfl rfl (ple_of (fun r : ChanR × Int => .tup [.agg (ChanR.pc r.1), .int .i64 r.2]) e5 (ple rfl))
theorem chans_Chan_Put_ok (c : ChanR) : Fn Tryz.prog gb 52 [.agg (ChanR.pc c)] (.tup [.agg (ChanR.pc ((chans_Chan_Put c).1)), .int .u64 ((chans_Chan_Put c).2)]) := by
  refine fn_cw tv41 Tryz.func52 rfl Tryz.ntmps52 rfl cb52 rfl rfl fun w N H hG => ?_
  have c_takers_l : c.takers.length ≤ 140737488355328 := w.1.2.1.1
  have c_lent_l : c.lent.length ≤ 140737488355328 := w.1.2.2.1.1
  have c_held_l_l : c.held.l.length ≤ 140737488355328 := w.1.2.2.2.2.2.2.1.1
  have e0 := chans_Chan_Put.eq_1 c
  refine go tv41 2 rfl rfl trivial ?_
  refine ef (boxA 0 rfl rfl rfl fun b1 => ?_)
  refine ef (alloc tv41 1 rfl rfl rfl rfl fun b2 => ?_)
  refine go tv41 11 rfl rfl trivial ?_
  refine cnd rfl (fun h3 => ?_) (fun h3 => ?_)
  · have h4 := not_t h3
    have e5 := e0.trans (condT h3)
    refine go tv41 3 rfl rfl trivial ?_
    refine ef (storeA tv41 rfl rfl rfl rfl rfl rfl rfl rfl rfl rfl ?_)
    refine go tv41 5 rfl rfl trivial ?_
    exact rt2 rfl rfl (ple_of (fun r : ChanR × Int => .tup [.agg (ChanR.pc r.1), .int .u64 r.2]) e5 (ple rfl))
  have h6 := not_f h3
  have e7 := e0.trans (condF h3)
  have := wr_u64 (c.puts + 1)
  refine go tv41 8 rfl rfl trivial ?_
  refine ef (store1 tv41 rfl rfl rfl rfl rfl rfl rfl rfl rfl ?_)
  refine go tv41 3 rfl rfl trivial ?_
  refine any [1, 2, 3, 4, 5, 6, 7] 5 mixd rfl ?_
  refine gov tv41 [0, 1, 2] 2 rfl (by kernel_rfl) rfl rfl trivial ?_
  refine ve 3 rfl (by kernel_rfl) rfl (storeA tv41 rfl rfl rfl rfl rfl rfl rfl rfl rfl rfl ?_)
  refine gov tv41 [4] 0 rfl (by kernel_rfl) rfl rfl trivial ?_
  refine vdone (by kernel_rfl) ?_
  refine go tv41 2 rfl rfl trivial ?_
  exact rt2 rfl rfl (ple_of (fun r : ChanR × Int => .tup [.agg (ChanR.pc r.1), .int .u64 r.2]) e7 (ple rfl))
theorem chans_Chan_Number_ok (c : ChanR) : Fn Tryz.prog gb 192 [.agg (ChanR.pc c)] (.int .u64 (chans_Chan_Number c)) := by
  refine fn_cw tv41 Tryz.func192 rfl Tryz.ntmps192 rfl cb192 rfl rfl fun w N H hG => ?_
  have c_takers_l : c.takers.length ≤ 140737488355328 := w.1.2.1.1
  have c_lent_l : c.lent.length ≤ 140737488355328 := w.1.2.2.1.1
  have c_held_l_l : c.held.l.length ≤ 140737488355328 := w.1.2.2.2.2.2.2.1.1
  have e0 := chans_Chan_Number.eq_1 c
  refine go tv41 2 rfl rfl trivial ?_
  refine ef (boxA 0 rfl rfl rfl fun b1 => ?_)
  refine go tv41 11 rfl rfl trivial ?_
  exact rt1 rfl rfl (ple_of (fun r : Int => .int .u64 r) e0 (ple rfl))
theorem chans_Chan_Draft_ok (c : ChanR) : Fn Tryz.prog gb 54 [.agg (ChanR.pc c)] (.tup [.agg (ChanR.pc ((chans_Chan_Draft c).1)), .int .i64 ((chans_Chan_Draft c).2)]) := by
  refine fn_cw tv41 Tryz.func54 rfl Tryz.ntmps54 rfl cb54 rfl rfl fun w N H hG => ?_
  have c_takers_l : c.takers.length ≤ 140737488355328 := w.1.2.1.1
  have c_lent_l : c.lent.length ≤ 140737488355328 := w.1.2.2.1.1
  have c_held_l_l : c.held.l.length ≤ 140737488355328 := w.1.2.2.2.2.2.2.1.1
  have e0 := chans_Chan_Draft.eq_1 c
  refine go tv41 2 rfl rfl trivial ?_
  refine ef (boxA 0 rfl rfl rfl fun b1 => ?_)
  refine ef (alloc tv41 1 rfl rfl rfl rfl fun b2 => ?_)
  refine go tv41 14 rfl rfl ⟨(fun hc => hc), rfl, rfl, trivial⟩ ?_
  refine cnd rfl (fun h3 => ?_) (fun h3 => ?_)
  · have e4 := e0.trans (condT h3)
    refine go tv41 3 rfl rfl trivial ?_
    refine ef (storeA tv41 rfl rfl rfl rfl rfl rfl rfl rfl rfl rfl ?_)
    refine go tv41 5 rfl rfl trivial ?_
    exact rt2 rfl rfl (ple_of (fun r : ChanR × Int => .tup [.agg (ChanR.pc r.1), .int .i64 r.2]) e4 (ple rfl))
  have h5 := orl h3
  have h6 := orr h3
  have e7 := e0.trans (condF h3)
  refine go tv41 5 rfl rfl trivial ?_
  refine ef (store1 tv41 rfl rfl rfl rfl rfl rfl rfl rfl rfl ?_)
  refine go tv41 5 rfl rfl trivial ?_
  refine ef (storeA tv41 rfl rfl rfl rfl rfl rfl rfl rfl rfl rfl ?_)
  refine go tv41 4 rfl rfl trivial ?_
  exact rt2 rfl rfl (ple_of (fun r : ChanR × Int => .tup [.agg (ChanR.pc r.1), .int .i64 r.2]) e7 (ple rfl))
theorem chans_Chan_Drafts_ok (c : ChanR) : Fn Tryz.prog gb 109 [.agg (ChanR.pc c)] (.bool (chans_Chan_Drafts c)) := by
  refine fn_cw tv41 Tryz.func109 rfl Tryz.ntmps109 rfl cb109 rfl rfl fun w N H hG => ?_
  have c_takers_l : c.takers.length ≤ 140737488355328 := w.1.2.1.1
  have c_lent_l : c.lent.length ≤ 140737488355328 := w.1.2.2.1.1
  have c_held_l_l : c.held.l.length ≤ 140737488355328 := w.1.2.2.2.2.2.2.1.1
  have e0 := chans_Chan_Drafts.eq_1 c
  refine go tv41 2 rfl rfl trivial ?_
  refine ef (boxA 0 rfl rfl rfl fun b1 => ?_)
  refine go tv41 11 rfl rfl trivial ?_
  exact rt1 rfl rfl (ple_of (fun r : Bool => .bool r) e0 (ple rfl))
theorem chans_Chan_Undo_ok (c : ChanR) : Fn Tryz.prog gb 58 [.agg (ChanR.pc c)] (.tup [.agg (ChanR.pc ((chans_Chan_Undo c).1)), .int .i64 ((chans_Chan_Undo c).2)]) := by
  refine fn_cw tv41 Tryz.func58 rfl Tryz.ntmps58 rfl cb58 rfl rfl fun w N H hG => ?_
  have c_takers_l : c.takers.length ≤ 140737488355328 := w.1.2.1.1
  have c_lent_l : c.lent.length ≤ 140737488355328 := w.1.2.2.1.1
  have c_held_l_l : c.held.l.length ≤ 140737488355328 := w.1.2.2.2.2.2.2.1.1
  have e0 := chans_Chan_Undo.eq_1 c
  refine go tv41 2 rfl rfl trivial ?_
  refine ef (boxA 0 rfl rfl rfl fun b1 => ?_)
  refine ef (alloc tv41 1 rfl rfl rfl rfl fun b2 => ?_)
  refine go tv41 11 rfl rfl trivial ?_
  refine cnd rfl (fun h3 => ?_) (fun h3 => ?_)
  · have h4 := not_t h3
    have e5 := e0.trans (condT h3)
    refine go tv41 3 rfl rfl trivial ?_
    refine ef (storeA tv41 rfl rfl rfl rfl rfl rfl rfl rfl rfl rfl ?_)
    refine go tv41 5 rfl rfl trivial ?_
    exact rt2 rfl rfl (ple_of (fun r : ChanR × Int => .tup [.agg (ChanR.pc r.1), .int .i64 r.2]) e5 (ple rfl))
  have h6 := not_f h3
  have e7 := e0.trans (condF h3)
  refine go tv41 6 rfl rfl trivial ?_
  refine ef (storeA tv41 rfl rfl rfl rfl rfl rfl rfl rfl rfl rfl ?_)
  refine go tv41 5 rfl rfl trivial ?_
  refine ef (storeA tv41 rfl rfl rfl rfl rfl rfl rfl rfl rfl rfl ?_)
  refine go tv41 4 rfl rfl trivial ?_
  exact rt2 rfl rfl (ple_of (fun r : ChanR × Int => .tup [.agg (ChanR.pc r.1), .int .i64 r.2]) e7 (ple rfl))
end Go.SW.V
