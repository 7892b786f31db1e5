/-
  A part of the proof of SessionGates: The walks of this seat, printed by program: session.Session.Told, session.Session.plan, session.Session.Plan, session.Session.Takers, session.Session.End, session.Session.Take. The walks of this seat, printed by program: stairwellref12.SameMail, stairwellref12.Same, stairwelllaw11.Awake, stairwellref07.Parse, stairwelllaw28.Light, stairwelllaw28.err, stairwellref28.May, stairwellref28.say, stairwellref28.Answer, stairwellref28.Back, stairwellref28.admin, stairwellref28.put, stairwellref28.At, stairwellref28.own, stairwellref28.SameAll, stairwellref28.Sent, stairwellref28.SameTakers. The walks of this seat, printed by program: stairwellref08.All, stairwellref28.planPut, stairwellref28.planSettle, stairwellref28.Told, stairwellref28.Plan, stairwellref28.Takers, stairwellref28.End. The walks of this seat, printed by program: stairwellref28.Take, stairwelllaw28.awake, stairwelllaw28.Takers, stairwelllaw28.ask. The walks of this seat, printed by program: stairwelllaw28.take. The walks of this seat, printed by program: stairwelllaw28.done. The walks of this seat, printed by program: stairwelllaw28.SessionPlays, stairwelllaw28.SessionGates, stairwelllaw28.SessionPieces. A table of texts that the row lists. Over any program; no condition. Sessions, behind any acts: the code's answers are the document's. Plain laws; each asks what it lists. Sessions: what may come, and when. Plain laws; each asks what it lists.
-/
import Derived.Test.YtifcilncaepeoaaGreatDoorProg
import Derived.Test.YtifcilncaepeoaaGreatDoorSessionGatesP4
import Derived.KernelRfl
import Derived.Test.YtifcilncaepeoaaGreatDoorSessionGatesP6
import Derived.Test.YtifcilncaepeoaaGreatDoorSessionGatesP3
set_option linter.unusedVariables false
set_option linter.unusedSimpArgs false
set_option linter.unusedVariables false
set_option maxRecDepth 100000
set_option maxHeartbeats 4000000
namespace Go.SW.V
open Go.SW Go.Proofs
theorem cb114 : Callable Tryz.prog 114 := callable_of Tryz.func114 (by kernel_rfl) (by kernel_rfl)
theorem cb20 : Callable Tryz.prog 20 := callable_of Tryz.func20 (by kernel_rfl) (by kernel_rfl)
theorem cb22 : Callable Tryz.prog 22 := callable_of Tryz.func22 (by kernel_rfl) (by kernel_rfl)
theorem cb24 : Callable Tryz.prog 24 := callable_of Tryz.func24 (by kernel_rfl) (by kernel_rfl)
theorem cb71 : Callable Tryz.prog 71 := callable_of Tryz.func71 (by kernel_rfl) (by kernel_rfl)
def tbv82 : Tb := [(3, ⟨.int .i64, 1, 8, [.int .i64 0]⟩),
  (4, ⟨.bool, 1, 1, [.bool false]⟩),
  (5, ⟨.int .u8, 1, 1, [.int .u8 0]⟩),
  (9, ⟨.str, 1, 16, [.str []]⟩),
  (25, ⟨.slc 151, 1, 24, [.sl TakerR.pc []]⟩),
  (27, ⟨.int .u64, 1, 8, [.int .u64 0]⟩),
  (28, ⟨.slc 53, 1, 24, [.sl DeedR.pc []]⟩),
  (32, ⟨.agg [(0, 1), (1, 1), (2, 1), (3, 1), (4, 1), (5, 1), (6, 1)], 7, 96, [.int .i64 0, .sl TakerR.pc [], .sl LentR.pc [], .bool false, .bool false, .int .u64 0, .sl DeedR.pc []]⟩),
  (53, ⟨.agg [(0, 1), (1, 1), (2, 3), (5, 4), (9, 6), (15, 1), (16, 1), (17, 1), (18, 1), (19, 1), (20, 1), (21, 7), (28, 1)], 29, 344, [.int .u8 0, .int .u64 0, .str [], .int .u8 0, .str [], .str [], .int .u64 0, .int .u64 0, .str [], .str [], .str [], .bool false, .str [], .sl Pair.pc [], .bool false, .str [], .int .u64 0, .int .u8 0, .int .u8 0, .int .u8 0, .int .u64 0, .int .u64 0, .str [], .str [], .sl Pair.pc [], .str [], .int .u64 0, .int .u8 0, .str []]⟩),
  (64, ⟨.agg [(0, 1), (1, 1), (2, 1), (3, 1), (4, 1), (5, 1), (6, 1), (7, 1), (8, 1), (9, 1)], 10, 120, [.int .u8 0, .int .u8 0, .str [], .str [], .str [], .sl Pair.pc [], .str [], .int .u64 0, .int .u64 0, .bool false]⟩),
  (70, ⟨.agg [(0, 1), (1, 1)], 2, 24, [.str [], .int .i64 0]⟩),
  (72, ⟨.agg [(0, 7), (7, 1)], 8, 104, [.int .i64 0, .sl TakerR.pc [], .sl LentR.pc [], .bool false, .bool false, .int .u64 0, .sl DeedR.pc [], .bool false]⟩),
  (73, ⟨.arr, 40, 520, [.int .i64 0, .sl TakerR.pc [], .sl LentR.pc [], .bool false, .bool false, .int .u64 0, .sl DeedR.pc [], .bool false, .int .i64 0, .sl TakerR.pc [], .sl LentR.pc [], .bool false, .bool false, .int .u64 0, .sl DeedR.pc [], .bool false, .int .i64 0, .sl TakerR.pc [], .sl LentR.pc [], .bool false, .bool false, .int .u64 0, .sl DeedR.pc [], .bool false, .int .i64 0, .sl TakerR.pc [], .sl LentR.pc [], .bool false, .bool false, .int .u64 0, .sl DeedR.pc [], .bool false, .int .i64 0, .sl TakerR.pc [], .sl LentR.pc [], .bool false, .bool false, .int .u64 0, .sl DeedR.pc [], .bool false]⟩),
  (75, ⟨.agg [(0, 1), (1, 2), (3, 1), (4, 1), (5, 40)], 45, 568, [.str [], .str [], .int .i64 0, .bool false, .bool false, .int .i64 0, .sl TakerR.pc [], .sl LentR.pc [], .bool false, .bool false, .int .u64 0, .sl DeedR.pc [], .bool false, .int .i64 0, .sl TakerR.pc [], .sl LentR.pc [], .bool false, .bool false, .int .u64 0, .sl DeedR.pc [], .bool false, .int .i64 0, .sl TakerR.pc [], .sl LentR.pc [], .bool false, .bool false, .int .u64 0, .sl DeedR.pc [], .bool false, .int .i64 0, .sl TakerR.pc [], .sl LentR.pc [], .bool false, .bool false, .int .u64 0, .sl DeedR.pc [], .bool false, .int .i64 0, .sl TakerR.pc [], .sl LentR.pc [], .bool false, .bool false, .int .u64 0, .sl DeedR.pc [], .bool false]⟩),
  (77, ⟨.slc 137, 1, 24, [.sl Reply.pc []]⟩),
  (82, ⟨.slc 153, 1, 24, [.sl TakerS.pc []]⟩),
  (86, ⟨.slc 64, 1, 24, [.sl Method.pc []]⟩),
  (99, ⟨.agg [(0, 7), (7, 1), (8, 1)], 9, 104, [.int .u64 0, .str [], .str [], .sl Pair.pc [], .str [], .int .u64 0, .int .u8 0, .bool false, .bool false]⟩),
  (137, ⟨.agg [(0, 1), (1, 1), (2, 1), (3, 1), (4, 1), (5, 1), (6, 7)], 13, 144, [.int .u8 0, .int .u8 0, .int .u64 0, .int .u64 0, .bool false, .str [], .int .u64 0, .str [], .str [], .sl Pair.pc [], .str [], .int .u64 0, .int .u8 0]⟩),
  (151, ⟨.agg [(0, 1), (1, 1)], 2, 24, [.int .u64 0, .str []]⟩),
  (153, ⟨.agg [(0, 1), (1, 1), (2, 1)], 3, 32, [.int .u8 0, .int .u64 0, .str []]⟩),
  (154, ⟨.slc 158, 1, 24, [.sl Frame.pc []]⟩),
  (158, ⟨.agg [(0, 1), (1, 1), (2, 1)], 3, 24, [.int .u8 0, .int .u8 0, .str []]⟩),
  (230, ⟨.slc 232, 1, 24, [.sl ResultR.pc []]⟩),
  (232, ⟨.agg [(0, 9), (9, 1), (10, 1)], 11, 120, [.int .u64 0, .str [], .str [], .sl Pair.pc [], .str [], .int .u64 0, .int .u8 0, .bool false, .bool false, .int .i64 0, .int .i64 0]⟩)]
theorem tv82 : tbB Tryz.prog tbv82 = true := by kernel_rfl
theorem session_Session_Told_ok (s : SessionR) (m : Method) (l : List ResultR) (e : Int) (hs : SOk s 10000000) (hl : ∀ r ∈ l, r.item.mail.head.length ≤ 1000000) : Fn Tryz.prog gb 114 [.agg (SessionR.pc s), .agg (Method.pc m), .sl ResultR.pc l, .int .i64 e] (.tup [.agg (SessionR.pc ((session_Session_Told s m l e).1)), .sl Reply.pc ((session_Session_Told s m l e).2)]) := by
  refine fn_cw tv82 Tryz.func114 rfl Tryz.ntmps114 rfl cb114 rfl rfl fun w N H hG => ?_
  have s_place_l : s.place.length ≤ 9223372036854775807 := w.1.1
  have s_feed_rest_l : s.feed.rest.length ≤ 9223372036854775807 := w.1.2.1
  have s_feed_err_r : -9223372036854775808 ≤ s.feed.err ∧ s.feed.err ≤ 9223372036854775807 := w.1.2.2.1
  have s_slots_e0_chan_credit_r : -9223372036854775808 ≤ s.slots.e0.chan.credit ∧ s.slots.e0.chan.credit ≤ 9223372036854775807 := w.1.2.2.2.2.2.1
  have s_slots_e0_chan_puts_r : 0 ≤ s.slots.e0.chan.puts ∧ s.slots.e0.chan.puts ≤ 18446744073709551615 := w.1.2.2.2.2.2.2.2.2.2.2.1
  have s_slots_e1_chan_credit_r : -9223372036854775808 ≤ s.slots.e1.chan.credit ∧ s.slots.e1.chan.credit ≤ 9223372036854775807 := w.1.2.2.2.2.2.2.2.2.2.2.2.2.2.1
  have s_slots_e1_chan_puts_r : 0 ≤ s.slots.e1.chan.puts ∧ s.slots.e1.chan.puts ≤ 18446744073709551615 := w.1.2.2.2.2.2.2.2.2.2.2.2.2.2.2.2.2.2.2.1
  have s_slots_e2_chan_credit_r : -9223372036854775808 ≤ s.slots.e2.chan.credit ∧ s.slots.e2.chan.credit ≤ 9223372036854775807 := w.1.2.2.2.2.2.2.2.2.2.2.2.2.2.2.2.2.2.2.2.2.2.1
  have s_slots_e2_chan_puts_r : 0 ≤ s.slots.e2.chan.puts ∧ s.slots.e2.chan.puts ≤ 18446744073709551615 := w.1.2.2.2.2.2.2.2.2.2.2.2.2.2.2.2.2.2.2.2.2.2.2.2.2.2.2.1
  have s_slots_e3_chan_credit_r : -9223372036854775808 ≤ s.slots.e3.chan.credit ∧ s.slots.e3.chan.credit ≤ 9223372036854775807 := w.1.2.2.2.2.2.2.2.2.2.2.2.2.2.2.2.2.2.2.2.2.2.2.2.2.2.2.2.2.2.1
  have s_slots_e3_chan_puts_r : 0 ≤ s.slots.e3.chan.puts ∧ s.slots.e3.chan.puts ≤ 18446744073709551615 := w.1.2.2.2.2.2.2.2.2.2.2.2.2.2.2.2.2.2.2.2.2.2.2.2.2.2.2.2.2.2.2.2.2.2.2.1
  have s_slots_e4_chan_credit_r : -9223372036854775808 ≤ s.slots.e4.chan.credit ∧ s.slots.e4.chan.credit ≤ 9223372036854775807 := w.1.2.2.2.2.2.2.2.2.2.2.2.2.2.2.2.2.2.2.2.2.2.2.2.2.2.2.2.2.2.2.2.2.2.2.2.2.2.1
  have s_slots_e4_chan_puts_r : 0 ≤ s.slots.e4.chan.puts ∧ s.slots.e4.chan.puts ≤ 18446744073709551615 := w.1.2.2.2.2.2.2.2.2.2.2.2.2.2.2.2.2.2.2.2.2.2.2.2.2.2.2.2.2.2.2.2.2.2.2.2.2.2.2.2.2.2.2.1
  have m_channel_r : 0 ≤ m.channel ∧ m.channel ≤ 255 := w.2.1.1
  have m_kind_r : 0 ≤ m.kind ∧ m.kind ≤ 255 := w.2.1.2.1
  have m_name_l : m.name.length ≤ 9223372036854775807 := w.2.1.2.2.1
  have m_other_l : m.other.length ≤ 9223372036854775807 := w.2.1.2.2.2.1
  have m_key_l : m.key.length ≤ 9223372036854775807 := w.2.1.2.2.2.2.1
  have m_head_l : m.head.length ≤ 140737488355328 := w.2.1.2.2.2.2.2.1.1
  have m_body_l : m.body.length ≤ 9223372036854775807 := w.2.1.2.2.2.2.2.2.1
  have m_n_r : 0 ≤ m.n ∧ m.n ≤ 18446744073709551615 := w.2.1.2.2.2.2.2.2.2.1
  have m_m_r : 0 ≤ m.m ∧ m.m ≤ 18446744073709551615 := w.2.1.2.2.2.2.2.2.2.2.1
  have l_l : l.length ≤ 140737488355328 := w.2.2.1.1
  have e_r : -9223372036854775808 ≤ e ∧ e ≤ 9223372036854775807 := w.2.2.2.1
  have e0 := session_Session_Told.eq_1 s m l e
  refine go tv82 2 rfl rfl trivial ?_
  refine ef (boxA 0 rfl rfl rfl fun b1 => ?_)
  refine ef (boxA 1 rfl rfl rfl fun b2 => ?_)
  refine ef (alloc tv82 2 rfl rfl rfl rfl fun b3 => ?_)
  refine go tv82 13 rfl rfl ⟨(fun hc => hc), trivial⟩ ?_
  refine q1g [20, 21] rfl (fun hc => qaia (m.channel).toNat rfl rfl Tryz.underlying73 sz72 (by omega) (by first | omega | (simp only [gOf, Bool.and_eq_true, Bool.or_eq_true, Bool.not_eq_true', decide_eq_true_eq, decide_eq_false_iff_not, Bool.not_eq_false', Bool.and_true, Bool.true_and, cond_true, cond_false] at *; omega))) ⟨(fun hc => hc), (fun hc => hc), trivial⟩ rfl rfl rfl fun _ => ?_
  refine go tv82 1 rfl rfl ⟨(fun hc => hc), trivial⟩ ?_
  refine q1gL [23] rfl (fun hc => lyS1 (len := 5) (fun q => .bool ((A5.get s.slots q).isopen)) ((m.channel).toNat) 5 8 7 tv82 rfl rfl rfl rfl rfl rfl (by first | omega | (simp only [gOf, Bool.and_eq_true, Bool.or_eq_true, Bool.not_eq_true', decide_eq_true_eq, decide_eq_false_iff_not, Bool.not_eq_false', Bool.and_true, Bool.true_and, cond_true, cond_false] at *; omega)) (fun _ => rfl) (bw5 rfl rfl rfl rfl rfl)) ⟨(fun hc => hc), trivial⟩ rfl rfl fun _ => ?_
  refine go tv82 4 rfl rfl ⟨(fun hc => hc), rfl, rfl, trivial⟩ ?_
  refine cnd rfl (fun h4 => ?_) (fun h4 => ?_)
  · have e5 := e0.trans (condT h4)
    refine go tv82 3 rfl rfl trivial ?_
    refine ef (storeA tv82 rfl rfl rfl rfl rfl rfl rfl rfl rfl rfl ?_)
    refine go tv82 5 rfl rfl trivial ?_
    exact rt2 rfl rfl (ple_of (fun r : SessionR × (List Reply) => .tup [.agg (SessionR.pc r.1), .sl Reply.pc r.2]) e5 (ple_tup (ples_cons (ple rfl) (ples_cons ple_nil ples_nil))))
  have h6 := orl h4
  have p7 := df h6
  have h8 := orr h4
  have h9 := not_f h8
  have e10 := e0.trans (condF h4)
  refine go tv82 7 rfl rfl trivial ?_
  refine q1 (qaia (m.channel).toNat rfl rfl Tryz.underlying73 sz72 (by omega) (by omega)) rfl fun w11 => ?_
  refine ef (oloadSA (sz := 8) (len := 5) (fun q => [.int .i64 ((A5.get s.slots q).chan.credit), .sl TakerR.pc ((A5.get s.slots q).chan.takers), .sl LentR.pc ((A5.get s.slots q).chan.lent), .bool ((A5.get s.slots q).chan.sure), .bool ((A5.get s.slots q).chan.drafts), .int .u64 ((A5.get s.slots q).chan.puts), .sl DeedR.pc ((A5.get s.slots q).chan.held.l), .bool ((A5.get s.slots q).isopen)]) ((m.channel).toNat) 5 8 0 tv82 rfl rfl rfl rfl rfl rfl rfl (by omega) (bw5 rfl rfl rfl rfl rfl) (bw5 rfl rfl rfl rfl rfl) rfl fun w12 => ?_)
  refine ef (alloc tv82 3 rfl rfl rfl rfl fun b13 => ?_)
  refine ef (storeA tv82 rfl rfl rfl rfl rfl rfl rfl rfl rfl rfl ?_)
  refine go tv82 3 rfl rfl trivial ?_
  obtain ⟨o, e_o, q_o⟩ := lp2_split e10
  refine joinc (ι := SessionR × SlotR) [3, 4, 5, 8] [1, 2] (fun ⟨x, x1⟩ => []) (fun ⟨x, x1⟩ => [(0, .box b1 75 [.str x.place, .str x.feed.rest, .int .i64 x.feed.err, .bool x.begun, .bool x.over, .int .i64 x.slots.e0.chan.credit, .sl TakerR.pc x.slots.e0.chan.takers, .sl LentR.pc x.slots.e0.chan.lent, .bool x.slots.e0.chan.sure, .bool x.slots.e0.chan.drafts, .int .u64 x.slots.e0.chan.puts, .sl DeedR.pc x.slots.e0.chan.held.l, .bool x.slots.e0.isopen, .int .i64 x.slots.e1.chan.credit, .sl TakerR.pc x.slots.e1.chan.takers, .sl LentR.pc x.slots.e1.chan.lent, .bool x.slots.e1.chan.sure, .bool x.slots.e1.chan.drafts, .int .u64 x.slots.e1.chan.puts, .sl DeedR.pc x.slots.e1.chan.held.l, .bool x.slots.e1.isopen, .int .i64 x.slots.e2.chan.credit, .sl TakerR.pc x.slots.e2.chan.takers, .sl LentR.pc x.slots.e2.chan.lent, .bool x.slots.e2.chan.sure, .bool x.slots.e2.chan.drafts, .int .u64 x.slots.e2.chan.puts, .sl DeedR.pc x.slots.e2.chan.held.l, .bool x.slots.e2.isopen, .int .i64 x.slots.e3.chan.credit, .sl TakerR.pc x.slots.e3.chan.takers, .sl LentR.pc x.slots.e3.chan.lent, .bool x.slots.e3.chan.sure, .bool x.slots.e3.chan.drafts, .int .u64 x.slots.e3.chan.puts, .sl DeedR.pc x.slots.e3.chan.held.l, .bool x.slots.e3.isopen, .int .i64 x.slots.e4.chan.credit, .sl TakerR.pc x.slots.e4.chan.takers, .sl LentR.pc x.slots.e4.chan.lent, .bool x.slots.e4.chan.sure, .bool x.slots.e4.chan.drafts, .int .u64 x.slots.e4.chan.puts, .sl DeedR.pc x.slots.e4.chan.held.l, .bool x.slots.e4.isopen]), (3, .box b13 72 [.int .i64 x1.chan.credit, .sl TakerR.pc x1.chan.takers, .sl LentR.pc x1.chan.lent, .bool x1.chan.sure, .bool x1.chan.drafts, .int .u64 x1.chan.puts, .sl DeedR.pc x1.chan.held.l, .bool x1.isopen])]) (fun ⟨x, x1⟩ => o = .fin (x, x1)) ?_ ?_
  · refine go tv82 13 rfl rfl trivial ?_
    refine cnd rfl (fun h14 => ?_) (fun h14 => ?_)
    · have p15 := dt h14
      have e16 := e_o.trans (condT h14)
      refine go tv82 1 rfl rfl trivial ?_
      refine any [2, 4, 5, 6, 7, 8, 9] 7 mixd rfl ?_
      refine gov tv82 [0, 1, 2, 3] 3 rfl (by kernel_rfl) rfl rfl trivial ?_
      refine ve 4 rfl (by kernel_rfl) rfl (ecall (session_slot_toldPut_ok (A5.get s.slots ((m.channel).toNat)) m _) rfl rfl ?_)
      generalize hr18 : session_slot_toldPut (A5.get s.slots ((m.channel).toNat)) m e = r
      intro w17
      have e19 := e16.trans (lt_eq hr18.symm)
      refine ve 5 rfl (by kernel_rfl) rfl (storeA tv82 rfl rfl rfl rfl rfl rfl rfl rfl rfl rfl ?_)
      refine gov tv82 [6] 0 rfl (by kernel_rfl) rfl rfl trivial ?_
      refine vdone (by kernel_rfl) ?_
      refine go tv82 5 rfl rfl trivial ?_
      have e20 := lp2_ret q_o e19
      exact rt2 rfl rfl (ple_of (fun r : SessionR × (List Reply) => .tup [.agg (SessionR.pc r.1), .sl Reply.pc r.2]) e20 (ple rfl))
    have p21 := df h14
    have e22 := e_o.trans (condF h14)
    refine go tv82 6 rfl rfl trivial ?_
    refine cnd rfl (fun h23 => ?_) (fun h23 => ?_)
    · have p24 := dt h23
      have e25 := e22.trans (condT h23)
      refine go tv82 8 rfl rfl trivial ?_
      refine cnd rfl (fun h26 => ?_) (fun h26 => ?_)
      · have p27 := dt h26
        have e28 := e25.trans (condT h26)
        refine go tv82 1 rfl rfl trivial ?_
        refine joinc (ι := Value) [8] [0, 1, 3] (fun u29 => [(9, .osl 4)]) (fun u29 => [(2, .box b3 75 [.str s.place, .str s.feed.rest, .int .i64 s.feed.err, .bool s.begun, .bool s.over, .int .i64 s.slots.e0.chan.credit, .sl TakerR.pc s.slots.e0.chan.takers, .sl LentR.pc s.slots.e0.chan.lent, .bool s.slots.e0.chan.sure, .bool s.slots.e0.chan.drafts, .int .u64 s.slots.e0.chan.puts, .sl DeedR.pc s.slots.e0.chan.held.l, .bool s.slots.e0.isopen, .int .i64 s.slots.e1.chan.credit, .sl TakerR.pc s.slots.e1.chan.takers, .sl LentR.pc s.slots.e1.chan.lent, .bool s.slots.e1.chan.sure, .bool s.slots.e1.chan.drafts, .int .u64 s.slots.e1.chan.puts, .sl DeedR.pc s.slots.e1.chan.held.l, .bool s.slots.e1.isopen, .int .i64 s.slots.e2.chan.credit, .sl TakerR.pc s.slots.e2.chan.takers, .sl LentR.pc s.slots.e2.chan.lent, .bool s.slots.e2.chan.sure, .bool s.slots.e2.chan.drafts, .int .u64 s.slots.e2.chan.puts, .sl DeedR.pc s.slots.e2.chan.held.l, .bool s.slots.e2.isopen, .int .i64 s.slots.e3.chan.credit, .sl TakerR.pc s.slots.e3.chan.takers, .sl LentR.pc s.slots.e3.chan.lent, .bool s.slots.e3.chan.sure, .bool s.slots.e3.chan.drafts, .int .u64 s.slots.e3.chan.puts, .sl DeedR.pc s.slots.e3.chan.held.l, .bool s.slots.e3.isopen, .int .i64 s.slots.e4.chan.credit, .sl TakerR.pc s.slots.e4.chan.takers, .sl LentR.pc s.slots.e4.chan.lent, .bool s.slots.e4.chan.sure, .bool s.slots.e4.chan.drafts, .int .u64 s.slots.e4.chan.puts, .sl DeedR.pc s.slots.e4.chan.held.l, .bool s.slots.e4.isopen]), (4, .arr u29 13 137 Reply.pc [(⟨m.channel, 4, 0, 0, false, [], (⟨0, [], [], [], [], 0, 0⟩ : Mail)⟩ : Reply)])]) (fun u29 => True) ?_ ?_
        · refine any [2, 4, 5, 6, 7, 8, 9, 10, 11] 7 mixd rfl ?_
          refine gov tv82 [0, 1, 2, 3] 3 rfl (by kernel_rfl) rfl rfl trivial ?_
          refine veL 4 [5] (by kernel_rfl) ⟨⟨_, rfl, ?_⟩, ⟨_, rfl, ?_⟩, trivial⟩
          · refine ej rfl (bsl 4 Reply.pc [(⟨m.channel, 4, 0, 0, false, [], (⟨0, [], [], [], [], 0, 0⟩ : Mail)⟩ : Reply)] tv82 rfl rfl rfl rfl rfl (fun _ => rfl) rfl (by decide) (by decide) rfl fun u30 => ?_)
            refine ve 5 rfl (by kernel_rfl) rfl (storeA tv82 rfl rfl rfl rfl rfl rfl rfl rfl rfl rfl ?_)
            refine gov tv82 [6] 0 rfl (by kernel_rfl) rfl rfl trivial ?_
            refine vdone (by kernel_rfl) ?_
            refine next (u30) rfl rfl ⟨rfl, trivial⟩ ⟨rfl, rfl, trivial⟩ (by decide) ?_
            exact trivial
          refine ej rfl (storeA tv82 rfl rfl rfl rfl rfl rfl rfl rfl rfl rfl ?_)
          refine ve 4 rfl (by kernel_rfl) rfl (bsl 4 Reply.pc [(⟨m.channel, 4, 0, 0, false, [], (⟨0, [], [], [], [], 0, 0⟩ : Mail)⟩ : Reply)] tv82 rfl rfl rfl rfl rfl (fun _ => rfl) rfl (by decide) (by decide) rfl fun u31 => ?_)
          refine gov tv82 [6] 0 rfl (by kernel_rfl) rfl rfl trivial ?_
          refine vdone (by kernel_rfl) ?_
          refine next (u31) rfl rfl ⟨rfl, trivial⟩ ⟨rfl, rfl, trivial⟩ (by decide) ?_
          exact trivial
        rintro u29 _
        refine go tv82 1 rfl rfl trivial ?_
        refine givec 4 rfl ?_
        refine go tv82 5 rfl rfl trivial ?_
        have e32 := lp2_ret q_o e28
        exact rt2 rfl rfl (ple_of (fun r : SessionR × (List Reply) => .tup [.agg (SessionR.pc r.1), .sl Reply.pc r.2]) e32 (ple rfl))
      have p33 := df h26
      have e34 := e25.trans (condF h26)
      refine go tv82 12 rfl rfl ⟨(fun hc => hc), (fun hc => hc), rfl, rfl, trivial⟩ ?_
      refine cnd rfl (fun h35 => ?_) (fun h35 => ?_)
      · have h36 := bl h35
        have p37 := dt h36
        have h38 := br h35
        have p39 := dt h38
        have e40 := e34.trans (condT h35)
        refine go tv82 1 rfl rfl trivial ?_
        refine joinc (ι := Nat × Nat) [8, 9] [0, 1, 2, 3] (fun ⟨b41, b42⟩ => [(11, .own 4 b41 0), (12, .own 5 b42 0)]) (fun ⟨b41, b42⟩ => [(4, .box b41 75 [.str (((session_Session_Sent s (⟨m.channel, 256, m.name⟩ : TakerS) ((gt l 0).item)).1).place), .str (((session_Session_Sent s (⟨m.channel, 256, m.name⟩ : TakerS) ((gt l 0).item)).1).feed.rest), .int .i64 (((session_Session_Sent s (⟨m.channel, 256, m.name⟩ : TakerS) ((gt l 0).item)).1).feed.err), .bool (((session_Session_Sent s (⟨m.channel, 256, m.name⟩ : TakerS) ((gt l 0).item)).1).begun), .bool (((session_Session_Sent s (⟨m.channel, 256, m.name⟩ : TakerS) ((gt l 0).item)).1).over), .int .i64 (((session_Session_Sent s (⟨m.channel, 256, m.name⟩ : TakerS) ((gt l 0).item)).1).slots.e0.chan.credit), .sl TakerR.pc (((session_Session_Sent s (⟨m.channel, 256, m.name⟩ : TakerS) ((gt l 0).item)).1).slots.e0.chan.takers), .sl LentR.pc (((session_Session_Sent s (⟨m.channel, 256, m.name⟩ : TakerS) ((gt l 0).item)).1).slots.e0.chan.lent), .bool (((session_Session_Sent s (⟨m.channel, 256, m.name⟩ : TakerS) ((gt l 0).item)).1).slots.e0.chan.sure), .bool (((session_Session_Sent s (⟨m.channel, 256, m.name⟩ : TakerS) ((gt l 0).item)).1).slots.e0.chan.drafts), .int .u64 (((session_Session_Sent s (⟨m.channel, 256, m.name⟩ : TakerS) ((gt l 0).item)).1).slots.e0.chan.puts), .sl DeedR.pc (((session_Session_Sent s (⟨m.channel, 256, m.name⟩ : TakerS) ((gt l 0).item)).1).slots.e0.chan.held.l), .bool (((session_Session_Sent s (⟨m.channel, 256, m.name⟩ : TakerS) ((gt l 0).item)).1).slots.e0.isopen), .int .i64 (((session_Session_Sent s (⟨m.channel, 256, m.name⟩ : TakerS) ((gt l 0).item)).1).slots.e1.chan.credit), .sl TakerR.pc (((session_Session_Sent s (⟨m.channel, 256, m.name⟩ : TakerS) ((gt l 0).item)).1).slots.e1.chan.takers), .sl LentR.pc (((session_Session_Sent s (⟨m.channel, 256, m.name⟩ : TakerS) ((gt l 0).item)).1).slots.e1.chan.lent), .bool (((session_Session_Sent s (⟨m.channel, 256, m.name⟩ : TakerS) ((gt l 0).item)).1).slots.e1.chan.sure), .bool (((session_Session_Sent s (⟨m.channel, 256, m.name⟩ : TakerS) ((gt l 0).item)).1).slots.e1.chan.drafts), .int .u64 (((session_Session_Sent s (⟨m.channel, 256, m.name⟩ : TakerS) ((gt l 0).item)).1).slots.e1.chan.puts), .sl DeedR.pc (((session_Session_Sent s (⟨m.channel, 256, m.name⟩ : TakerS) ((gt l 0).item)).1).slots.e1.chan.held.l), .bool (((session_Session_Sent s (⟨m.channel, 256, m.name⟩ : TakerS) ((gt l 0).item)).1).slots.e1.isopen), .int .i64 (((session_Session_Sent s (⟨m.channel, 256, m.name⟩ : TakerS) ((gt l 0).item)).1).slots.e2.chan.credit), .sl TakerR.pc (((session_Session_Sent s (⟨m.channel, 256, m.name⟩ : TakerS) ((gt l 0).item)).1).slots.e2.chan.takers), .sl LentR.pc (((session_Session_Sent s (⟨m.channel, 256, m.name⟩ : TakerS) ((gt l 0).item)).1).slots.e2.chan.lent), .bool (((session_Session_Sent s (⟨m.channel, 256, m.name⟩ : TakerS) ((gt l 0).item)).1).slots.e2.chan.sure), .bool (((session_Session_Sent s (⟨m.channel, 256, m.name⟩ : TakerS) ((gt l 0).item)).1).slots.e2.chan.drafts), .int .u64 (((session_Session_Sent s (⟨m.channel, 256, m.name⟩ : TakerS) ((gt l 0).item)).1).slots.e2.chan.puts), .sl DeedR.pc (((session_Session_Sent s (⟨m.channel, 256, m.name⟩ : TakerS) ((gt l 0).item)).1).slots.e2.chan.held.l), .bool (((session_Session_Sent s (⟨m.channel, 256, m.name⟩ : TakerS) ((gt l 0).item)).1).slots.e2.isopen), .int .i64 (((session_Session_Sent s (⟨m.channel, 256, m.name⟩ : TakerS) ((gt l 0).item)).1).slots.e3.chan.credit), .sl TakerR.pc (((session_Session_Sent s (⟨m.channel, 256, m.name⟩ : TakerS) ((gt l 0).item)).1).slots.e3.chan.takers), .sl LentR.pc (((session_Session_Sent s (⟨m.channel, 256, m.name⟩ : TakerS) ((gt l 0).item)).1).slots.e3.chan.lent), .bool (((session_Session_Sent s (⟨m.channel, 256, m.name⟩ : TakerS) ((gt l 0).item)).1).slots.e3.chan.sure), .bool (((session_Session_Sent s (⟨m.channel, 256, m.name⟩ : TakerS) ((gt l 0).item)).1).slots.e3.chan.drafts), .int .u64 (((session_Session_Sent s (⟨m.channel, 256, m.name⟩ : TakerS) ((gt l 0).item)).1).slots.e3.chan.puts), .sl DeedR.pc (((session_Session_Sent s (⟨m.channel, 256, m.name⟩ : TakerS) ((gt l 0).item)).1).slots.e3.chan.held.l), .bool (((session_Session_Sent s (⟨m.channel, 256, m.name⟩ : TakerS) ((gt l 0).item)).1).slots.e3.isopen), .int .i64 (((session_Session_Sent s (⟨m.channel, 256, m.name⟩ : TakerS) ((gt l 0).item)).1).slots.e4.chan.credit), .sl TakerR.pc (((session_Session_Sent s (⟨m.channel, 256, m.name⟩ : TakerS) ((gt l 0).item)).1).slots.e4.chan.takers), .sl LentR.pc (((session_Session_Sent s (⟨m.channel, 256, m.name⟩ : TakerS) ((gt l 0).item)).1).slots.e4.chan.lent), .bool (((session_Session_Sent s (⟨m.channel, 256, m.name⟩ : TakerS) ((gt l 0).item)).1).slots.e4.chan.sure), .bool (((session_Session_Sent s (⟨m.channel, 256, m.name⟩ : TakerS) ((gt l 0).item)).1).slots.e4.chan.drafts), .int .u64 (((session_Session_Sent s (⟨m.channel, 256, m.name⟩ : TakerS) ((gt l 0).item)).1).slots.e4.chan.puts), .sl DeedR.pc (((session_Session_Sent s (⟨m.channel, 256, m.name⟩ : TakerS) ((gt l 0).item)).1).slots.e4.chan.held.l), .bool (((session_Session_Sent s (⟨m.channel, 256, m.name⟩ : TakerS) ((gt l 0).item)).1).slots.e4.isopen)]), (5, .box b42 137 [.int .u8 (((session_Session_Sent s (⟨m.channel, 256, m.name⟩ : TakerS) ((gt l 0).item)).2).channel), .int .u8 (((session_Session_Sent s (⟨m.channel, 256, m.name⟩ : TakerS) ((gt l 0).item)).2).kind), .int .u64 (((session_Session_Sent s (⟨m.channel, 256, m.name⟩ : TakerS) ((gt l 0).item)).2).n), .int .u64 (((session_Session_Sent s (⟨m.channel, 256, m.name⟩ : TakerS) ((gt l 0).item)).2).m), .bool (((session_Session_Sent s (⟨m.channel, 256, m.name⟩ : TakerS) ((gt l 0).item)).2).yes), .str (((session_Session_Sent s (⟨m.channel, 256, m.name⟩ : TakerS) ((gt l 0).item)).2).name), .int .u64 (((session_Session_Sent s (⟨m.channel, 256, m.name⟩ : TakerS) ((gt l 0).item)).2).mail.id), .str (((session_Session_Sent s (⟨m.channel, 256, m.name⟩ : TakerS) ((gt l 0).item)).2).mail.shop), .str (((session_Session_Sent s (⟨m.channel, 256, m.name⟩ : TakerS) ((gt l 0).item)).2).mail.key), .sl Pair.pc (((session_Session_Sent s (⟨m.channel, 256, m.name⟩ : TakerS) ((gt l 0).item)).2).mail.head), .str (((session_Session_Sent s (⟨m.channel, 256, m.name⟩ : TakerS) ((gt l 0).item)).2).mail.body), .int .u64 (((session_Session_Sent s (⟨m.channel, 256, m.name⟩ : TakerS) ((gt l 0).item)).2).mail.due), .int .u8 (((session_Session_Sent s (⟨m.channel, 256, m.name⟩ : TakerS) ((gt l 0).item)).2).mail.hops)])]) (fun ⟨b41, b42⟩ => PV.wf (.tup [.agg (SessionR.pc ((session_Session_Sent s (⟨m.channel, 256, m.name⟩ : TakerS) ((gt l 0).item)).1)), .agg (Reply.pc ((session_Session_Sent s (⟨m.channel, 256, m.name⟩ : TakerS) ((gt l 0).item)).2))])) ?_ ?_
        · refine any [4, 5, 6, 7, 8, 9, 10, 11] 18 mixd rfl ?_
          refine gov tv82 [0, 1, 2, 3, 4, 5, 6] 11 rfl (by kernel_rfl) rfl rfl trivial ?_
          have hc43 := getG (xs := l) (k := 0) (by omega)
          have hz_hc43 := hl (gt l 0) (List.mem_of_getElem? hc43)
          refine vq 7 (qidx tv82 0 rfl rfl rfl hc43 rfl rfl rfl rfl) rfl (by kernel_rfl) rfl fun w44 => ?_
          refine gov tv82 [8, 9] 8 rfl (by kernel_rfl) rfl rfl trivial ?_
          refine veL 10 [14, 15] (by kernel_rfl) ⟨⟨_, rfl, ?_⟩, ⟨_, rfl, ?_⟩, ⟨_, rfl, ?_⟩, trivial⟩
          · refine ej rfl (ecall (session_Session_Sent_ok s (⟨m.channel, 256, m.name⟩ : TakerS) ((gt l 0).item) (by first | assumption | exact sok_le (by assumption) (by omega)) (by omega)) rfl rfl fun w45 => ?_)
            refine gov tv82 [11, 12, 13] 4 rfl (by kernel_rfl) rfl rfl trivial ?_
            refine veL 14 [15] (by kernel_rfl) ⟨⟨_, rfl, ?_⟩, ⟨_, rfl, ?_⟩, trivial⟩
            · refine ej rfl (alloc tv82 4 rfl rfl rfl rfl fun b46 => ?_)
              refine ve 15 rfl (by kernel_rfl) rfl (alloc tv82 5 rfl rfl rfl rfl fun b47 => ?_)
              refine ve 16 rfl (by kernel_rfl) rfl (storeA tv82 rfl rfl rfl rfl rfl rfl rfl rfl rfl rfl ?_)
              refine ve 17 rfl (by kernel_rfl) rfl (storeA tv82 rfl rfl rfl rfl rfl rfl rfl rfl rfl rfl ?_)
              refine vdone (by kernel_rfl) ?_
              refine next ⟨(b46), (b47)⟩ rfl rfl ⟨rfl, rfl, trivial⟩ ⟨rfl, rfl, trivial⟩ (by decide) ?_
              exact w45
            refine ej rfl (alloc tv82 5 rfl rfl rfl rfl fun b48 => ?_)
            refine ve 14 rfl (by kernel_rfl) rfl (alloc tv82 4 rfl rfl rfl rfl fun b49 => ?_)
            refine ve 16 rfl (by kernel_rfl) rfl (storeA tv82 rfl rfl rfl rfl rfl rfl rfl rfl rfl rfl ?_)
            refine ve 17 rfl (by kernel_rfl) rfl (storeA tv82 rfl rfl rfl rfl rfl rfl rfl rfl rfl rfl ?_)
            refine vdone (by kernel_rfl) ?_
            refine next ⟨(b49), (b48)⟩ rfl rfl ⟨rfl, rfl, trivial⟩ ⟨rfl, rfl, trivial⟩ (by decide) ?_
            exact w45
          · refine ej rfl (alloc tv82 4 rfl rfl rfl rfl fun b50 => ?_)
            refine veL 10 [15] (by kernel_rfl) ⟨⟨_, rfl, ?_⟩, ⟨_, rfl, ?_⟩, trivial⟩
            · refine ej rfl (ecall (session_Session_Sent_ok s (⟨m.channel, 256, m.name⟩ : TakerS) ((gt l 0).item) (by first | assumption | exact sok_le (by assumption) (by omega)) (by omega)) rfl rfl fun w51 => ?_)
              refine gov tv82 [11, 12, 13] 3 rfl (by kernel_rfl) rfl rfl trivial ?_
              refine ve 15 rfl (by kernel_rfl) rfl (alloc tv82 5 rfl rfl rfl rfl fun b52 => ?_)
              refine ve 16 rfl (by kernel_rfl) rfl (storeA tv82 rfl rfl rfl rfl rfl rfl rfl rfl rfl rfl ?_)
              refine ve 17 rfl (by kernel_rfl) rfl (storeA tv82 rfl rfl rfl rfl rfl rfl rfl rfl rfl rfl ?_)
              refine vdone (by kernel_rfl) ?_
              refine next ⟨(b50), (b52)⟩ rfl rfl ⟨rfl, rfl, trivial⟩ ⟨rfl, rfl, trivial⟩ (by decide) ?_
              exact w51
            refine ej rfl (alloc tv82 5 rfl rfl rfl rfl fun b53 => ?_)
            refine ve 10 rfl (by kernel_rfl) rfl (ecall (session_Session_Sent_ok s (⟨m.channel, 256, m.name⟩ : TakerS) ((gt l 0).item) (by first | assumption | exact sok_le (by assumption) (by omega)) (by omega)) rfl rfl fun w54 => ?_)
            refine gov tv82 [11, 12, 13] 2 rfl (by kernel_rfl) rfl rfl trivial ?_
            refine ve 16 rfl (by kernel_rfl) rfl (storeA tv82 rfl rfl rfl rfl rfl rfl rfl rfl rfl rfl ?_)
            refine ve 17 rfl (by kernel_rfl) rfl (storeA tv82 rfl rfl rfl rfl rfl rfl rfl rfl rfl rfl ?_)
            refine vdone (by kernel_rfl) ?_
            refine next ⟨(b50), (b53)⟩ rfl rfl ⟨rfl, rfl, trivial⟩ ⟨rfl, rfl, trivial⟩ (by decide) ?_
            exact w54
          refine ej rfl (alloc tv82 5 rfl rfl rfl rfl fun b55 => ?_)
          refine veL 10 [14] (by kernel_rfl) ⟨⟨_, rfl, ?_⟩, ⟨_, rfl, ?_⟩, trivial⟩
          · refine ej rfl (ecall (session_Session_Sent_ok s (⟨m.channel, 256, m.name⟩ : TakerS) ((gt l 0).item) (by first | assumption | exact sok_le (by assumption) (by omega)) (by omega)) rfl rfl fun w56 => ?_)
            refine gov tv82 [11, 12, 13] 3 rfl (by kernel_rfl) rfl rfl trivial ?_
            refine ve 14 rfl (by kernel_rfl) rfl (alloc tv82 4 rfl rfl rfl rfl fun b57 => ?_)
            refine ve 16 rfl (by kernel_rfl) rfl (storeA tv82 rfl rfl rfl rfl rfl rfl rfl rfl rfl rfl ?_)
            refine ve 17 rfl (by kernel_rfl) rfl (storeA tv82 rfl rfl rfl rfl rfl rfl rfl rfl rfl rfl ?_)
            refine vdone (by kernel_rfl) ?_
            refine next ⟨(b57), (b55)⟩ rfl rfl ⟨rfl, rfl, trivial⟩ ⟨rfl, rfl, trivial⟩ (by decide) ?_
            exact w56
          refine ej rfl (alloc tv82 4 rfl rfl rfl rfl fun b58 => ?_)
          refine ve 10 rfl (by kernel_rfl) rfl (ecall (session_Session_Sent_ok s (⟨m.channel, 256, m.name⟩ : TakerS) ((gt l 0).item) (by first | assumption | exact sok_le (by assumption) (by omega)) (by omega)) rfl rfl fun w59 => ?_)
          refine gov tv82 [11, 12, 13] 2 rfl (by kernel_rfl) rfl rfl trivial ?_
          refine ve 16 rfl (by kernel_rfl) rfl (storeA tv82 rfl rfl rfl rfl rfl rfl rfl rfl rfl rfl ?_)
          refine ve 17 rfl (by kernel_rfl) rfl (storeA tv82 rfl rfl rfl rfl rfl rfl rfl rfl rfl rfl ?_)
          refine vdone (by kernel_rfl) ?_
          refine next ⟨(b58), (b55)⟩ rfl rfl ⟨rfl, rfl, trivial⟩ ⟨rfl, rfl, trivial⟩ (by decide) ?_
          exact w59
        generalize hr60 : session_Session_Sent s (⟨m.channel, 256, m.name⟩ : TakerS) ((gt l 0).item) = r1
        rintro ⟨b41, b42⟩ w61
        have e62 := e40.trans (lt_eq hr60.symm)
        have hr60 := hr60.symm
        (try have hA62 := ssent_ok (s := s) (⟨m.channel, 256, m.name⟩ : TakerS) ((gt l 0).item) (by assumption) (by omega))
        (try rw [← hr60] at hA62)
        (try have hA63 := ssent_rep s (⟨m.channel, 256, m.name⟩ : TakerS) ((gt l 0).item) (by omega))
        (try rw [← hr60] at hA63)
        refine go tv82 2 rfl rfl trivial ?_
        refine joinc (ι := Value) [8] [0, 1, 3, 4, 5] (fun u65 => [(9, .osl 6)]) (fun u65 => [(2, .box b3 75 [.str ((r1.1).place), .str ((r1.1).feed.rest), .int .i64 ((r1.1).feed.err), .bool ((r1.1).begun), .bool ((r1.1).over), .int .i64 ((r1.1).slots.e0.chan.credit), .sl TakerR.pc ((r1.1).slots.e0.chan.takers), .sl LentR.pc ((r1.1).slots.e0.chan.lent), .bool ((r1.1).slots.e0.chan.sure), .bool ((r1.1).slots.e0.chan.drafts), .int .u64 ((r1.1).slots.e0.chan.puts), .sl DeedR.pc ((r1.1).slots.e0.chan.held.l), .bool ((r1.1).slots.e0.isopen), .int .i64 ((r1.1).slots.e1.chan.credit), .sl TakerR.pc ((r1.1).slots.e1.chan.takers), .sl LentR.pc ((r1.1).slots.e1.chan.lent), .bool ((r1.1).slots.e1.chan.sure), .bool ((r1.1).slots.e1.chan.drafts), .int .u64 ((r1.1).slots.e1.chan.puts), .sl DeedR.pc ((r1.1).slots.e1.chan.held.l), .bool ((r1.1).slots.e1.isopen), .int .i64 ((r1.1).slots.e2.chan.credit), .sl TakerR.pc ((r1.1).slots.e2.chan.takers), .sl LentR.pc ((r1.1).slots.e2.chan.lent), .bool ((r1.1).slots.e2.chan.sure), .bool ((r1.1).slots.e2.chan.drafts), .int .u64 ((r1.1).slots.e2.chan.puts), .sl DeedR.pc ((r1.1).slots.e2.chan.held.l), .bool ((r1.1).slots.e2.isopen), .int .i64 ((r1.1).slots.e3.chan.credit), .sl TakerR.pc ((r1.1).slots.e3.chan.takers), .sl LentR.pc ((r1.1).slots.e3.chan.lent), .bool ((r1.1).slots.e3.chan.sure), .bool ((r1.1).slots.e3.chan.drafts), .int .u64 ((r1.1).slots.e3.chan.puts), .sl DeedR.pc ((r1.1).slots.e3.chan.held.l), .bool ((r1.1).slots.e3.isopen), .int .i64 ((r1.1).slots.e4.chan.credit), .sl TakerR.pc ((r1.1).slots.e4.chan.takers), .sl LentR.pc ((r1.1).slots.e4.chan.lent), .bool ((r1.1).slots.e4.chan.sure), .bool ((r1.1).slots.e4.chan.drafts), .int .u64 ((r1.1).slots.e4.chan.puts), .sl DeedR.pc ((r1.1).slots.e4.chan.held.l), .bool ((r1.1).slots.e4.isopen)]), (6, .arr u65 13 137 Reply.pc [(r1.2)])]) (fun u65 => True) ?_ ?_
        · refine any [2, 6, 7, 8, 9, 10, 11, 12, 13] 5 mixd rfl ?_
          refine gov tv82 [0, 1] 3 rfl (by kernel_rfl) rfl rfl trivial ?_
          refine veL 2 [3] (by kernel_rfl) ⟨⟨_, rfl, ?_⟩, ⟨_, rfl, ?_⟩, trivial⟩
          · refine ej rfl (bsl 6 Reply.pc [(r1.2)] tv82 rfl rfl rfl rfl rfl (fun _ => rfl) rfl (by decide) (by decide) rfl fun u66 => ?_)
            refine ve 3 rfl (by kernel_rfl) rfl (storeA tv82 rfl rfl rfl rfl rfl rfl rfl rfl rfl rfl ?_)
            refine gov tv82 [4] 0 rfl (by kernel_rfl) rfl rfl trivial ?_
            refine vdone (by kernel_rfl) ?_
            refine next (u66) rfl rfl ⟨rfl, trivial⟩ ⟨rfl, rfl, trivial⟩ (by decide) ?_
            exact trivial
          refine ej rfl (storeA tv82 rfl rfl rfl rfl rfl rfl rfl rfl rfl rfl ?_)
          refine ve 2 rfl (by kernel_rfl) rfl (bsl 6 Reply.pc [(r1.2)] tv82 rfl rfl rfl rfl rfl (fun _ => rfl) rfl (by decide) (by decide) rfl fun u67 => ?_)
          refine gov tv82 [4] 0 rfl (by kernel_rfl) rfl rfl trivial ?_
          refine vdone (by kernel_rfl) ?_
          refine next (u67) rfl rfl ⟨rfl, trivial⟩ ⟨rfl, rfl, trivial⟩ (by decide) ?_
          exact trivial
        rintro u65 _
        refine go tv82 1 rfl rfl trivial ?_
        refine givec 6 rfl ?_
        refine go tv82 5 rfl rfl trivial ?_
        have e68 := lp2_ret q_o e62
        exact rt2 rfl rfl (ple_of (fun r : SessionR × (List Reply) => .tup [.agg (SessionR.pc r.1), .sl Reply.pc r.2]) e68 (ple rfl))
      have e69 := e34.trans (condF h35)
      refine go tv82 3 rfl rfl trivial ?_
      refine next ⟨s, (A5.get s.slots ((m.channel).toNat))⟩ rfl rfl trivial ⟨rfl, rfl, trivial⟩ (by decide) ?_
      exact e69
    have p70 := df h23
    have e71 := e22.trans (condF h23)
    refine go tv82 1 rfl rfl trivial ?_
    obtain ⟨o1, e_o1, q_o1⟩ := lt1_split e71
    refine joinc (ι := Bool) [3, 4, 5, 8, 9, 10, 34] [0, 1, 2, 3] (fun v => [(77, .bool v)]) (fun v => []) (fun v => o1 = v) ?_ ?_
    · refine go tv82 6 rfl rfl trivial ?_
      refine cnd rfl (fun h72 => ?_) (fun h72 => ?_)
      · have p73 := dt h72
        have e74 := e_o1.trans (condT h72)
        refine go tv82 1 rfl rfl trivial ?_
        refine next (decide (m.kind = 16)) rfl rfl ⟨rfl, trivial⟩ trivial (by decide) ?_
        exact e74
      have p75 := df h72
      have e76 := e_o1.trans (condF h72)
      refine go tv82 4 rfl rfl trivial ?_
      refine next (decide (m.kind = 19)) rfl rfl ⟨rfl, trivial⟩ trivial (by decide) ?_
      exact e76
    rintro v hp77
    have e78 := lt1_fin q_o1 hp77
    refine go tv82 1 rfl rfl trivial ?_
    refine cnd rfl (fun h79 => ?_) (fun h79 => ?_)
    · have e80 := e78.trans (condT h79)
      refine go tv82 5 rfl rfl trivial ?_
      refine ef (ecallo 4 (session_settles_ok _ _ _ (by first | assumption | exact sok_at (by assumption) (by omega) (by omega) | exact qok_at (by assumption) (by omega) (by omega) | exact cok_le (by assumption) (by omega) | exact cok_zero _ | exact cok_new _)) rfl rfl ?_)
      generalize hr83 : session_settles ((A5.get s.slots ((m.channel).toNat)).chan) m 0 = r2
      intro u82 w81
      have e84 := e80.trans (lt_eq hr83.symm)
      have hr83 := hr83.symm
      have hA84 := sset_len ((A5.get s.slots ((m.channel).toNat)).chan) m 0
      (try rw [← hr83] at hA84)
      refine go tv82 8 rfl rfl trivial ?_
      obtain ⟨o2, e_o2, q_o2⟩ := lt1_split e84
      refine joinc (ι := SlotR) [3, 4, 5, 8, 9, 10] [0, 1, 2] (fun x2 => []) (fun x2 => [(3, .box b13 72 [.int .i64 x2.chan.credit, .sl TakerR.pc x2.chan.takers, .sl LentR.pc x2.chan.lent, .bool x2.chan.sure, .bool x2.chan.drafts, .int .u64 x2.chan.puts, .sl DeedR.pc x2.chan.held.l, .bool x2.isopen])]) (fun x2 => o2 = x2) ?_ ?_
      · refine go tv82 6 rfl rfl trivial ?_
        refine cnd rfl (fun h86 => ?_) (fun h86 => ?_)
        · have p87 := dt h86
          have e88 := e_o2.trans (condT h86)
          refine go tv82 4 rfl rfl trivial ?_
          refine so_osl (t := 91) 4 rfl rfl ?_
          refine so_osl (t := 85) 4 rfl rfl ?_
          refine so_osl (t := 13) 4 rfl rfl ?_
          refine give 4 rfl ?_
          refine callv (chans_Chan_Gone ((A5.get s.slots ((m.channel).toNat)).chan) r2.1) (fun r : ChanR => .agg (ChanR.pc r)) (chans_Chan_Gone_ok _ _ (by first | omega | exact sok_ln (by assumption) (by omega) (by omega))) rfl rfl fun r3 hr89 w90 => ?_
          have e91 := e88.trans (lt_eq hr89)
          refine go tv82 1 rfl rfl trivial ?_
          refine ef (storeA tv82 rfl rfl rfl rfl rfl rfl rfl rfl rfl rfl ?_)
          refine go tv82 1 rfl rfl trivial ?_
          refine next (⟨r3, (A5.get s.slots ((m.channel).toNat)).isopen⟩ : SlotR) rfl rfl trivial ⟨rfl, trivial⟩ (by decide) ?_
          exact e91
        have p92 := df h86
        have e93 := e_o2.trans (condF h86)
        refine go tv82 1 rfl rfl trivial ?_
        refine next (A5.get s.slots ((m.channel).toNat)) rfl rfl trivial ⟨rfl, trivial⟩ (by decide) ?_
        exact e93
      rintro x2 hp94
      have e95 := lt1_fin q_o2 hp94
      refine go tv82 9 rfl rfl trivial ?_
      refine cnd rfl (fun h96 => ?_) (fun h96 => ?_)
      · have p97 := dt h96
        have e98 := e95.trans (condT h96)
        refine go tv82 3 rfl rfl trivial ?_
        refine callv (chans_Chan_Undo x2.chan) (fun r : ChanR × Int => .tup [.agg (ChanR.pc r.1), .int .i64 r.2]) (chans_Chan_Undo_ok _) rfl rfl fun r4 hr99 w100 => ?_
        have e101 := e98.trans (lt_eq hr99)
        refine go tv82 4 rfl rfl trivial ?_
        refine ef (storeA tv82 rfl rfl rfl rfl rfl rfl rfl rfl rfl rfl ?_)
        refine go tv82 7 rfl rfl trivial ?_
        refine q1 (qaia (m.channel).toNat rfl rfl Tryz.underlying73 sz72 (by omega) (by omega)) rfl fun w102 => ?_
        refine ef (ostoreSA (sz := 8) (len := 5) (fun q => SessionR.pc (⟨s.place, s.feed, s.begun, s.over, (A5.set s.slots (⟨r4.1, x2.isopen⟩ : SlotR) q)⟩ : SessionR)) ((m.channel).toNat) 5 8 0 tv82 rfl rfl rfl rfl rfl rfl rfl rfl rfl (by omega) (bw5 rfl rfl rfl rfl rfl) rfl (bw5 rfl rfl rfl rfl rfl) rfl ?_)
        refine go tv82 2 rfl rfl trivial ?_
        refine next ⟨(⟨s.place, s.feed, s.begun, s.over, (A5.set s.slots (⟨r4.1, x2.isopen⟩ : SlotR) ((m.channel).toNat))⟩ : SessionR), (⟨r4.1, x2.isopen⟩ : SlotR)⟩ rfl rfl trivial ⟨rfl, rfl, trivial⟩ (by decide) ?_
        exact e101
      have p103 := df h96
      have e104 := e95.trans (condF h96)
      refine go tv82 7 rfl rfl trivial ?_
      refine q1 (qaia (m.channel).toNat rfl rfl Tryz.underlying73 sz72 (by omega) (by omega)) rfl fun w105 => ?_
      refine ef (ostoreSA (sz := 8) (len := 5) (fun q => SessionR.pc (⟨s.place, s.feed, s.begun, s.over, (A5.set s.slots x2 q)⟩ : SessionR)) ((m.channel).toNat) 5 8 0 tv82 rfl rfl rfl rfl rfl rfl rfl rfl rfl (by omega) (bw5 rfl rfl rfl rfl rfl) rfl (bw5 rfl rfl rfl rfl rfl) rfl ?_)
      refine go tv82 2 rfl rfl trivial ?_
      refine next ⟨(⟨s.place, s.feed, s.begun, s.over, (A5.set s.slots x2 ((m.channel).toNat))⟩ : SessionR), x2⟩ rfl rfl trivial ⟨rfl, rfl, trivial⟩ (by decide) ?_
      exact e104
    have e106 := e78.trans (condF h79)
    refine go tv82 6 rfl rfl trivial ?_
    refine cnd rfl (fun h107 => ?_) (fun h107 => ?_)
    · have p108 := dt h107
      have e109 := e106.trans (condT h107)
      refine go tv82 6 rfl rfl trivial ?_
      refine cnd rfl (fun h110 => ?_) (fun h110 => ?_)
      · have p111 := dt h110
        have e112 := e109.trans (condT h110)
        refine go tv82 5 rfl rfl trivial ?_
        refine q1 (qaia (m.channel).toNat rfl rfl Tryz.underlying73 sz72 (by omega) (by omega)) rfl fun w113 => ?_
        refine ef (ostoreSA (sz := 8) (len := 5) (fun q => SessionR.pc (⟨s.place, s.feed, s.begun, s.over, (A5.set s.slots (⟨(⟨0, [], [], false, false, 0, (⟨[]⟩ : DraftR)⟩ : ChanR), false⟩ : SlotR) q)⟩ : SessionR)) ((m.channel).toNat) 5 8 0 tv82 rfl rfl rfl rfl rfl rfl rfl rfl rfl (by omega) (bw5 rfl rfl rfl rfl rfl) rfl (bw5 rfl rfl rfl rfl rfl) rfl ?_)
        refine go tv82 2 rfl rfl trivial ?_
        refine next ⟨(⟨s.place, s.feed, s.begun, s.over, (A5.set s.slots (⟨(⟨0, [], [], false, false, 0, (⟨[]⟩ : DraftR)⟩ : ChanR), false⟩ : SlotR) ((m.channel).toNat))⟩ : SessionR), (A5.get s.slots ((m.channel).toNat))⟩ rfl rfl trivial ⟨rfl, rfl, trivial⟩ (by decide) ?_
        exact e112
      have p114 := df h110
      have e115 := e109.trans (condF h110)
      refine go tv82 2 rfl rfl trivial ?_
      refine next ⟨s, (A5.get s.slots ((m.channel).toNat))⟩ rfl rfl trivial ⟨rfl, rfl, trivial⟩ (by decide) ?_
      exact e115
    have p116 := df h107
    have e117 := e106.trans (condF h107)
    refine go tv82 2 rfl rfl trivial ?_
    refine next ⟨s, (A5.get s.slots ((m.channel).toNat))⟩ rfl rfl trivial ⟨rfl, rfl, trivial⟩ (by decide) ?_
    exact e117
  rintro ⟨x, x1⟩ hp118
  have e119 := lp2_fin q_o hp118
  refine go tv82 2 rfl rfl trivial ?_
  refine any [2, 4, 5, 6, 7, 8, 9] 6 mixd rfl ?_
  refine gov tv82 [0, 1, 2] 3 rfl (by kernel_rfl) rfl rfl trivial ?_
  refine ve 3 rfl (by kernel_rfl) rfl (ecall (session_answer_ok m _) rfl rfl ?_)
  generalize hr121 : session_answer m e = r5
  intro w120
  have e122 := e119.trans (lt_eq hr121.symm)
  refine ve 4 rfl (by kernel_rfl) rfl (storeA tv82 rfl rfl rfl rfl rfl rfl rfl rfl rfl rfl ?_)
  refine gov tv82 [5] 0 rfl (by kernel_rfl) rfl rfl trivial ?_
  refine vdone (by kernel_rfl) ?_
  refine go tv82 2 rfl rfl trivial ?_
  exact rt2 rfl rfl (ple_of (fun r : SessionR × (List Reply) => .tup [.agg (SessionR.pc r.1), .sl Reply.pc r.2]) e122 (ple rfl))
theorem session_Session_plan_ok (s : SessionR) (m : Method) (tick : Int) (hs : SOk s 10000000) (hm : m.channel ≤ 4) (hh : m.head.length ≤ 1000000) : Fn Tryz.prog gb 71 [.agg (SessionR.pc s), .agg (Method.pc m), .int .u64 tick] (.tup [.agg (SessionR.pc ((session_Session_plan s m tick).1)), .sl Reply.pc ((session_Session_plan s m tick).2.1), .sl DeedR.pc ((session_Session_plan s m tick).2.2)]) := by
  refine fn_cw tv82 Tryz.func71 rfl Tryz.ntmps71 rfl cb71 rfl rfl fun w N H hG => ?_
  have s_place_l : s.place.length ≤ 9223372036854775807 := w.1.1
  have s_feed_rest_l : s.feed.rest.length ≤ 9223372036854775807 := w.1.2.1
  have s_feed_err_r : -9223372036854775808 ≤ s.feed.err ∧ s.feed.err ≤ 9223372036854775807 := w.1.2.2.1
  have s_slots_e0_chan_credit_r : -9223372036854775808 ≤ s.slots.e0.chan.credit ∧ s.slots.e0.chan.credit ≤ 9223372036854775807 := w.1.2.2.2.2.2.1
  have s_slots_e0_chan_puts_r : 0 ≤ s.slots.e0.chan.puts ∧ s.slots.e0.chan.puts ≤ 18446744073709551615 := w.1.2.2.2.2.2.2.2.2.2.2.1
  have s_slots_e1_chan_credit_r : -9223372036854775808 ≤ s.slots.e1.chan.credit ∧ s.slots.e1.chan.credit ≤ 9223372036854775807 := w.1.2.2.2.2.2.2.2.2.2.2.2.2.2.1
  have s_slots_e1_chan_puts_r : 0 ≤ s.slots.e1.chan.puts ∧ s.slots.e1.chan.puts ≤ 18446744073709551615 := w.1.2.2.2.2.2.2.2.2.2.2.2.2.2.2.2.2.2.2.1
  have s_slots_e2_chan_credit_r : -9223372036854775808 ≤ s.slots.e2.chan.credit ∧ s.slots.e2.chan.credit ≤ 9223372036854775807 := w.1.2.2.2.2.2.2.2.2.2.2.2.2.2.2.2.2.2.2.2.2.2.1
  have s_slots_e2_chan_puts_r : 0 ≤ s.slots.e2.chan.puts ∧ s.slots.e2.chan.puts ≤ 18446744073709551615 := w.1.2.2.2.2.2.2.2.2.2.2.2.2.2.2.2.2.2.2.2.2.2.2.2.2.2.2.1
  have s_slots_e3_chan_credit_r : -9223372036854775808 ≤ s.slots.e3.chan.credit ∧ s.slots.e3.chan.credit ≤ 9223372036854775807 := w.1.2.2.2.2.2.2.2.2.2.2.2.2.2.2.2.2.2.2.2.2.2.2.2.2.2.2.2.2.2.1
  have s_slots_e3_chan_puts_r : 0 ≤ s.slots.e3.chan.puts ∧ s.slots.e3.chan.puts ≤ 18446744073709551615 := w.1.2.2.2.2.2.2.2.2.2.2.2.2.2.2.2.2.2.2.2.2.2.2.2.2.2.2.2.2.2.2.2.2.2.2.1
  have s_slots_e4_chan_credit_r : -9223372036854775808 ≤ s.slots.e4.chan.credit ∧ s.slots.e4.chan.credit ≤ 9223372036854775807 := w.1.2.2.2.2.2.2.2.2.2.2.2.2.2.2.2.2.2.2.2.2.2.2.2.2.2.2.2.2.2.2.2.2.2.2.2.2.2.1
  have s_slots_e4_chan_puts_r : 0 ≤ s.slots.e4.chan.puts ∧ s.slots.e4.chan.puts ≤ 18446744073709551615 := w.1.2.2.2.2.2.2.2.2.2.2.2.2.2.2.2.2.2.2.2.2.2.2.2.2.2.2.2.2.2.2.2.2.2.2.2.2.2.2.2.2.2.2.1
  have m_channel_r : 0 ≤ m.channel ∧ m.channel ≤ 255 := w.2.1.1
  have m_kind_r : 0 ≤ m.kind ∧ m.kind ≤ 255 := w.2.1.2.1
  have m_name_l : m.name.length ≤ 9223372036854775807 := w.2.1.2.2.1
  have m_other_l : m.other.length ≤ 9223372036854775807 := w.2.1.2.2.2.1
  have m_key_l : m.key.length ≤ 9223372036854775807 := w.2.1.2.2.2.2.1
  have m_head_l : m.head.length ≤ 140737488355328 := w.2.1.2.2.2.2.2.1.1
  have m_body_l : m.body.length ≤ 9223372036854775807 := w.2.1.2.2.2.2.2.2.1
  have m_n_r : 0 ≤ m.n ∧ m.n ≤ 18446744073709551615 := w.2.1.2.2.2.2.2.2.2.1
  have m_m_r : 0 ≤ m.m ∧ m.m ≤ 18446744073709551615 := w.2.1.2.2.2.2.2.2.2.2.1
  have tick_r : 0 ≤ tick ∧ tick ≤ 18446744073709551615 := w.2.2.1
  have hch : COk (A5.get s.slots (m.channel).toNat).chan 10000000 := hs _ (by omega)
  obtain ⟨hc1, hc2, hc3, hc4⟩ := id hch
  obtain ⟨hcd1, hcd2, hcd3⟩ := id hc4
  have e0 := session_Session_plan.eq_1 s m tick
  refine go tv82 2 rfl rfl trivial ?_
  refine ef (boxA 0 rfl rfl rfl fun b1 => ?_)
  refine ef (boxA 1 rfl rfl rfl fun b2 => ?_)
  refine ef (alloc tv82 2 rfl rfl rfl rfl fun b3 => ?_)
  refine go tv82 9 rfl rfl trivial ?_
  refine q1 (qaia (m.channel).toNat rfl rfl Tryz.underlying73 sz72 (by omega) (by omega)) rfl fun w4 => ?_
  refine go tv82 1 rfl rfl trivial ?_
  refine ef (oloadSA (sz := 7) (len := 5) (fun q => [.int .i64 ((A5.get s.slots q).chan.credit), .sl TakerR.pc ((A5.get s.slots q).chan.takers), .sl LentR.pc ((A5.get s.slots q).chan.lent), .bool ((A5.get s.slots q).chan.sure), .bool ((A5.get s.slots q).chan.drafts), .int .u64 ((A5.get s.slots q).chan.puts), .sl DeedR.pc ((A5.get s.slots q).chan.held.l)]) ((m.channel).toNat) 5 8 0 tv82 rfl rfl rfl rfl rfl rfl rfl (by omega) (bw5 rfl rfl rfl rfl rfl) (bw5 rfl rfl rfl rfl rfl) rfl fun w5 => ?_)
  refine ef (alloc tv82 3 rfl rfl rfl rfl fun b6 => ?_)
  refine ef (storeA tv82 rfl rfl rfl rfl rfl rfl rfl rfl rfl rfl ?_)
  refine go tv82 7 rfl rfl trivial ?_
  refine callv (session_admin m tick) (fun r : (List DeedR) × Bool => .tup [.sl DeedR.pc r.1, .bool r.2]) (session_admin_ok _ _ (by omega)) rfl rfl fun r hr7 w8 => ?_
  have e9 := e0.trans (lt_eq hr7)
  refine go tv82 12 rfl rfl trivial ?_
  refine cnd rfl (fun h10 => ?_) (fun h10 => ?_)
  · have e11 := e9.trans (condT h10)
    refine go tv82 4 rfl rfl trivial ?_
    refine ef (storeA tv82 rfl rfl rfl rfl rfl rfl rfl rfl rfl rfl ?_)
    refine go tv82 6 rfl rfl trivial ?_
    exact rt3 rfl rfl (ple_of (fun r : SessionR × (List Reply) × (List DeedR) => .tup [.agg (SessionR.pc r.1), .sl Reply.pc r.2.1, .sl DeedR.pc r.2.2]) e11 (ple_tup (ples_cons (ple rfl) (ples_cons ple_nil (ples_cons (ple rfl) ples_nil)))))
  have e12 := e9.trans (condF h10)
  refine go tv82 7 rfl rfl trivial ?_
  refine callv (session_own ((A5.get s.slots ((m.channel).toNat)).chan) m) (fun r : ChanR × Int × Bool => .tup [.agg (ChanR.pc r.1), .int .i64 r.2.1, .bool r.2.2]) (session_own_ok _ _ (by first | assumption | exact sok_at (by assumption) (by omega) (by omega) | exact qok_at (by assumption) (by omega) (by omega) | exact cok_le (by assumption) (by omega) | exact cok_zero _ | exact cok_new _)) rfl rfl fun r1 hr13 w14 => ?_
  have e15 := e12.trans (lt_eq hr13)
  refine go tv82 4 rfl rfl trivial ?_
  refine ef (alloc tv82 4 rfl rfl rfl rfl fun b16 => ?_)
  refine ef (storeA tv82 rfl rfl rfl rfl rfl rfl rfl rfl rfl rfl ?_)
  refine go tv82 9 rfl rfl trivial ?_
  refine cnd rfl (fun h17 => ?_) (fun h17 => ?_)
  · have e18 := e15.trans (condT h17)
    refine go tv82 1 rfl rfl trivial ?_
    refine any [2, 5, 6, 7, 8, 9, 10] 10 mixd rfl ?_
    refine gov tv82 [0, 1, 2, 4, 5] 5 rfl (by kernel_rfl) rfl rfl trivial ?_
    refine ve 3 rfl (by kernel_rfl) rfl (ecall (session_Session_with_ok s m r1.1 (by omega)) rfl rfl ?_)
    generalize hr20 : session_Session_with s m r1.1 = r2
    intro w19
    have e21 := e18.trans (lt_eq hr20.symm)
    refine ve 6 rfl (by kernel_rfl) rfl (ecall (session_answer_ok m _) rfl rfl ?_)
    generalize hr23 : session_answer m r1.2.1 = r3
    intro w22
    have e24 := e21.trans (lt_eq hr23.symm)
    refine ve 7 rfl (by kernel_rfl) rfl (storeA tv82 rfl rfl rfl rfl rfl rfl rfl rfl rfl rfl ?_)
    refine gov tv82 [8, 9] 0 rfl (by kernel_rfl) rfl rfl trivial ?_
    refine vdone (by kernel_rfl) ?_
    refine go tv82 3 rfl rfl trivial ?_
    exact rt3 rfl rfl (ple_of (fun r : SessionR × (List Reply) × (List DeedR) => .tup [.agg (SessionR.pc r.1), .sl Reply.pc r.2.1, .sl DeedR.pc r.2.2]) e24 (ple_tup (ples_cons (ple rfl) (ples_cons (ple rfl) (ples_cons ple_nil ples_nil)))))
  have e25 := e15.trans (condF h17)
  refine go tv82 3 rfl rfl trivial ?_
  obtain ⟨o, e_o, q_o⟩ := lp0_split e25
  refine joinc (ι := Unit) [2, 3, 4, 6, 9] [0, 1, 2, 3, 4] (fun _ => []) (fun _ => []) (fun _ => o = .fin ()) ?_ ?_
  · refine go tv82 13 rfl rfl trivial ?_
    refine cnd rfl (fun h26 => ?_) (fun h26 => ?_)
    · have p27 := dt h26
      have e28 := e_o.trans (condT h26)
      refine go tv82 4 rfl rfl trivial ?_
      refine call (chans_Chan_Drafts_ok _) rfl rfl fun w29 => ?_
      refine go tv82 2 rfl rfl trivial ?_
      refine cnd rfl (fun h30 => ?_) (fun h30 => ?_)
      · have e31 := e28.trans (condT h30)
        refine go tv82 1 rfl rfl trivial ?_
        refine joinc (ι := Nat) [3, 4, 6, 7, 8] [0, 1, 2, 3, 4] (fun b32 => [(15, .own 6 b32 0), (16, .int .i64 ((chans_Chan_Hold ((A5.get s.slots ((m.channel).toNat)).chan) [(session_put m 0 m.m)]).2))]) (fun b32 => [(6, .box b32 32 [.int .i64 (((chans_Chan_Hold ((A5.get s.slots ((m.channel).toNat)).chan) [(session_put m 0 m.m)]).1).credit), .sl TakerR.pc (((chans_Chan_Hold ((A5.get s.slots ((m.channel).toNat)).chan) [(session_put m 0 m.m)]).1).takers), .sl LentR.pc (((chans_Chan_Hold ((A5.get s.slots ((m.channel).toNat)).chan) [(session_put m 0 m.m)]).1).lent), .bool (((chans_Chan_Hold ((A5.get s.slots ((m.channel).toNat)).chan) [(session_put m 0 m.m)]).1).sure), .bool (((chans_Chan_Hold ((A5.get s.slots ((m.channel).toNat)).chan) [(session_put m 0 m.m)]).1).drafts), .int .u64 (((chans_Chan_Hold ((A5.get s.slots ((m.channel).toNat)).chan) [(session_put m 0 m.m)]).1).puts), .sl DeedR.pc (((chans_Chan_Hold ((A5.get s.slots ((m.channel).toNat)).chan) [(session_put m 0 m.m)]).1).held.l)])]) (fun b32 => PV.wf (.agg (DeedR.pc (session_put m 0 m.m))) ∧ PV.wf (.tup [.agg (ChanR.pc ((chans_Chan_Hold ((A5.get s.slots ((m.channel).toNat)).chan) [(session_put m 0 m.m)]).1)), .int .i64 ((chans_Chan_Hold ((A5.get s.slots ((m.channel).toNat)).chan) [(session_put m 0 m.m)]).2)])) ?_ ?_
        · refine any [5, 6, 7, 8, 9, 10, 11, 12] 13 mixd rfl ?_
          refine gov tv82 [0, 1, 2, 3] 9 rfl (by kernel_rfl) rfl rfl trivial ?_
          refine veL 4 [10] (by kernel_rfl) ⟨⟨_, rfl, ?_⟩, ⟨_, rfl, ?_⟩, trivial⟩
          · refine ej rfl (ecall (session_put_ok m _ _ (by omega)) rfl rfl fun w33 => ?_)
            refine veL 5 [10] (by kernel_rfl) ⟨⟨_, rfl, ?_⟩, ⟨_, rfl, ?_⟩, trivial⟩
            · refine ej rfl (bsl 5 DeedR.pc [(session_put m 0 m.m)] tv82 rfl rfl rfl rfl rfl (fun _ => rfl) rfl (by decide) (by decide) rfl fun u34 => ?_)
              refine veL 6 [10] (by kernel_rfl) ⟨⟨_, rfl, ?_⟩, ⟨_, rfl, ?_⟩, trivial⟩
              · refine ej rfl (egive 5 rfl (eweak (ecall (chans_Chan_Hold_ok ((A5.get s.slots ((m.channel).toNat)).chan) _ (by first | omega | exact sok_hd (by assumption) (by omega) (by omega))) rfl rfl fun w35 => ?_)))
                refine gov tv82 [7, 8, 9] 3 rfl (by kernel_rfl) rfl rfl trivial ?_
                refine ve 10 rfl (by kernel_rfl) rfl (alloc tv82 6 rfl rfl rfl rfl fun b36 => ?_)
                refine ve 11 rfl (by kernel_rfl) rfl (storeA tv82 rfl rfl rfl rfl rfl rfl rfl rfl rfl rfl ?_)
                refine gov tv82 [12] 0 rfl (by kernel_rfl) rfl rfl trivial ?_
                refine vdone (by kernel_rfl) ?_
                refine next (b36) rfl rfl ⟨rfl, rfl, trivial⟩ ⟨rfl, trivial⟩ (by decide) ?_
                exact ⟨w33, w35⟩
              refine ej rfl (alloc tv82 6 rfl rfl rfl rfl fun b37 => ?_)
              refine ve 6 rfl (by kernel_rfl) rfl (egive 5 rfl (eweak (ecall (chans_Chan_Hold_ok ((A5.get s.slots ((m.channel).toNat)).chan) _ (by first | omega | exact sok_hd (by assumption) (by omega) (by omega))) rfl rfl fun w38 => ?_)))
              refine gov tv82 [7, 8, 9] 2 rfl (by kernel_rfl) rfl rfl trivial ?_
              refine ve 11 rfl (by kernel_rfl) rfl (storeA tv82 rfl rfl rfl rfl rfl rfl rfl rfl rfl rfl ?_)
              refine gov tv82 [12] 0 rfl (by kernel_rfl) rfl rfl trivial ?_
              refine vdone (by kernel_rfl) ?_
              refine next (b37) rfl rfl ⟨rfl, rfl, trivial⟩ ⟨rfl, trivial⟩ (by decide) ?_
              exact ⟨w33, w38⟩
            refine ej rfl (alloc tv82 6 rfl rfl rfl rfl fun b39 => ?_)
            refine ve 5 rfl (by kernel_rfl) rfl (bsl 5 DeedR.pc [(session_put m 0 m.m)] tv82 rfl rfl rfl rfl rfl (fun _ => rfl) rfl (by decide) (by decide) rfl fun u40 => ?_)
            refine ve 6 rfl (by kernel_rfl) rfl (egive 5 rfl (eweak (ecall (chans_Chan_Hold_ok ((A5.get s.slots ((m.channel).toNat)).chan) _ (by first | omega | exact sok_hd (by assumption) (by omega) (by omega))) rfl rfl fun w41 => ?_)))
            refine gov tv82 [7, 8, 9] 2 rfl (by kernel_rfl) rfl rfl trivial ?_
            refine ve 11 rfl (by kernel_rfl) rfl (storeA tv82 rfl rfl rfl rfl rfl rfl rfl rfl rfl rfl ?_)
            refine gov tv82 [12] 0 rfl (by kernel_rfl) rfl rfl trivial ?_
            refine vdone (by kernel_rfl) ?_
            refine next (b39) rfl rfl ⟨rfl, rfl, trivial⟩ ⟨rfl, trivial⟩ (by decide) ?_
            exact ⟨w33, w41⟩
          refine ej rfl (alloc tv82 6 rfl rfl rfl rfl fun b42 => ?_)
          refine ve 4 rfl (by kernel_rfl) rfl (ecall (session_put_ok m _ _ (by omega)) rfl rfl fun w43 => ?_)
          refine ve 5 rfl (by kernel_rfl) rfl (bsl 5 DeedR.pc [(session_put m 0 m.m)] tv82 rfl rfl rfl rfl rfl (fun _ => rfl) rfl (by decide) (by decide) rfl fun u44 => ?_)
          refine ve 6 rfl (by kernel_rfl) rfl (egive 5 rfl (eweak (ecall (chans_Chan_Hold_ok ((A5.get s.slots ((m.channel).toNat)).chan) _ (by first | omega | exact sok_hd (by assumption) (by omega) (by omega))) rfl rfl fun w45 => ?_)))
          refine gov tv82 [7, 8, 9] 2 rfl (by kernel_rfl) rfl rfl trivial ?_
          refine ve 11 rfl (by kernel_rfl) rfl (storeA tv82 rfl rfl rfl rfl rfl rfl rfl rfl rfl rfl ?_)
          refine gov tv82 [12] 0 rfl (by kernel_rfl) rfl rfl trivial ?_
          refine vdone (by kernel_rfl) ?_
          refine next (b42) rfl rfl ⟨rfl, rfl, trivial⟩ ⟨rfl, trivial⟩ (by decide) ?_
          exact ⟨w43, w45⟩
        generalize hr46 : session_put m 0 m.m = r4
        generalize hr47 : chans_Chan_Hold ((A5.get s.slots ((m.channel).toNat)).chan) [r4] = r5
        rintro b32 ⟨w48, w49⟩
        have e50 := e31.trans (lt_eq hr46.symm)
        have e51 := e50.trans (lt_eq hr47.symm)
        refine go tv82 8 rfl rfl trivial ?_
        refine cnd rfl (fun h52 => ?_) (fun h52 => ?_)
        · have p53 := dt h52
          have e54 := e51.trans (condT h52)
          refine go tv82 5 rfl rfl trivial ?_
          refine callv (session_Session_with s m (r5.1)) (fun r : SessionR => .agg (SessionR.pc r)) (session_Session_with_ok _ _ _ (by omega)) rfl rfl fun r6 hr55 w56 => ?_
          have e57 := e54.trans (lt_eq hr55)
          refine ef (storeA tv82 rfl rfl rfl rfl rfl rfl rfl rfl rfl rfl ?_)
          refine go tv82 10 rfl rfl trivial ?_
          have e58 := lp0_ret q_o e57
          exact rt3 rfl rfl (ple_of (fun r : SessionR × (List Reply) × (List DeedR) => .tup [.agg (SessionR.pc r.1), .sl Reply.pc r.2.1, .sl DeedR.pc r.2.2]) e58 (ple_tup (ples_cons (ple rfl) (ples_cons ple_nil (ples_cons ple_nil ples_nil)))))
        have p59 := df h52
        have e60 := e51.trans (condF h52)
        refine go tv82 3 rfl rfl trivial ?_
        refine any [2, 5, 7, 8, 9, 10, 11] 7 mixd rfl ?_
        refine gov tv82 [0, 1, 2] 4 rfl (by kernel_rfl) rfl rfl trivial ?_
        refine ve 3 rfl (by kernel_rfl) rfl (ecall (session_answer_ok m _) rfl rfl ?_)
        generalize hr62 : session_answer m r5.2 = r7
        intro w61
        have e63 := e60.trans (lt_eq hr62.symm)
        refine ve 4 rfl (by kernel_rfl) rfl (storeA tv82 rfl rfl rfl rfl rfl rfl rfl rfl rfl rfl ?_)
        refine gov tv82 [5, 6] 0 rfl (by kernel_rfl) rfl rfl trivial ?_
        refine vdone (by kernel_rfl) ?_
        refine go tv82 6 rfl rfl trivial ?_
        have e64 := lp0_ret q_o e63
        exact rt3 rfl rfl (ple_of (fun r : SessionR × (List Reply) × (List DeedR) => .tup [.agg (SessionR.pc r.1), .sl Reply.pc r.2.1, .sl DeedR.pc r.2.2]) e64 (ple_tup (ples_cons (ple rfl) (ples_cons (ple rfl) (ples_cons ple_nil ples_nil)))))
      have e65 := e28.trans (condF h30)
      refine go tv82 5 rfl rfl trivial ?_
      refine callv (chans_Chan_Put ((A5.get s.slots ((m.channel).toNat)).chan)) (fun r : ChanR × Int => .tup [.agg (ChanR.pc r.1), .int .u64 r.2]) (chans_Chan_Put_ok _) rfl rfl fun r8 hr66 w67 => ?_
      have e68 := e65.trans (lt_eq hr66)
      refine go tv82 3 rfl rfl trivial ?_
      refine ef (storeA tv82 rfl rfl rfl rfl rfl rfl rfl rfl rfl rfl ?_)
      refine go tv82 3 rfl rfl trivial ?_
      refine joinc (ι := Value) [6] [0, 1, 3, 4] (fun u69 => [(7, .val (.slice none 0 0)), (8, .osl 5)]) (fun u69 => [(2, .box b3 75 [.str ((session_Session_with s m r8.1).place), .str ((session_Session_with s m r8.1).feed.rest), .int .i64 ((session_Session_with s m r8.1).feed.err), .bool ((session_Session_with s m r8.1).begun), .bool ((session_Session_with s m r8.1).over), .int .i64 ((session_Session_with s m r8.1).slots.e0.chan.credit), .sl TakerR.pc ((session_Session_with s m r8.1).slots.e0.chan.takers), .sl LentR.pc ((session_Session_with s m r8.1).slots.e0.chan.lent), .bool ((session_Session_with s m r8.1).slots.e0.chan.sure), .bool ((session_Session_with s m r8.1).slots.e0.chan.drafts), .int .u64 ((session_Session_with s m r8.1).slots.e0.chan.puts), .sl DeedR.pc ((session_Session_with s m r8.1).slots.e0.chan.held.l), .bool ((session_Session_with s m r8.1).slots.e0.isopen), .int .i64 ((session_Session_with s m r8.1).slots.e1.chan.credit), .sl TakerR.pc ((session_Session_with s m r8.1).slots.e1.chan.takers), .sl LentR.pc ((session_Session_with s m r8.1).slots.e1.chan.lent), .bool ((session_Session_with s m r8.1).slots.e1.chan.sure), .bool ((session_Session_with s m r8.1).slots.e1.chan.drafts), .int .u64 ((session_Session_with s m r8.1).slots.e1.chan.puts), .sl DeedR.pc ((session_Session_with s m r8.1).slots.e1.chan.held.l), .bool ((session_Session_with s m r8.1).slots.e1.isopen), .int .i64 ((session_Session_with s m r8.1).slots.e2.chan.credit), .sl TakerR.pc ((session_Session_with s m r8.1).slots.e2.chan.takers), .sl LentR.pc ((session_Session_with s m r8.1).slots.e2.chan.lent), .bool ((session_Session_with s m r8.1).slots.e2.chan.sure), .bool ((session_Session_with s m r8.1).slots.e2.chan.drafts), .int .u64 ((session_Session_with s m r8.1).slots.e2.chan.puts), .sl DeedR.pc ((session_Session_with s m r8.1).slots.e2.chan.held.l), .bool ((session_Session_with s m r8.1).slots.e2.isopen), .int .i64 ((session_Session_with s m r8.1).slots.e3.chan.credit), .sl TakerR.pc ((session_Session_with s m r8.1).slots.e3.chan.takers), .sl LentR.pc ((session_Session_with s m r8.1).slots.e3.chan.lent), .bool ((session_Session_with s m r8.1).slots.e3.chan.sure), .bool ((session_Session_with s m r8.1).slots.e3.chan.drafts), .int .u64 ((session_Session_with s m r8.1).slots.e3.chan.puts), .sl DeedR.pc ((session_Session_with s m r8.1).slots.e3.chan.held.l), .bool ((session_Session_with s m r8.1).slots.e3.isopen), .int .i64 ((session_Session_with s m r8.1).slots.e4.chan.credit), .sl TakerR.pc ((session_Session_with s m r8.1).slots.e4.chan.takers), .sl LentR.pc ((session_Session_with s m r8.1).slots.e4.chan.lent), .bool ((session_Session_with s m r8.1).slots.e4.chan.sure), .bool ((session_Session_with s m r8.1).slots.e4.chan.drafts), .int .u64 ((session_Session_with s m r8.1).slots.e4.chan.puts), .sl DeedR.pc ((session_Session_with s m r8.1).slots.e4.chan.held.l), .bool ((session_Session_with s m r8.1).slots.e4.isopen)]), (5, .arr u69 29 53 DeedR.pc [(session_put m tick (lifeN tick m.m))])]) (fun u69 => PV.wf (.agg (SessionR.pc (session_Session_with s m r8.1))) ∧ PV.wf (.int .u64 (lifeN tick m.m)) ∧ PV.wf (.agg (DeedR.pc (session_put m tick (lifeN tick m.m))))) ?_ ?_
      · refine any [2, 5, 6, 7, 8, 9, 10, 11, 12] 15 mixd rfl ?_
        refine gov tv82 [0, 1, 2, 4, 5, 6, 7, 8] 7 rfl (by kernel_rfl) rfl rfl trivial ?_
        refine ve 3 rfl (by kernel_rfl) rfl (ecall (session_Session_with_ok s m r8.1 (by omega)) rfl rfl fun w70 => ?_)
        refine vcall 9 rfl (by kernel_rfl) (draft_Life _ _) rfl rfl fun w71 => ?_
        refine ve 10 rfl (by kernel_rfl) rfl (ecall (session_put_ok m _ _ (by omega)) rfl rfl fun w72 => ?_)
        refine veL 11 [12] (by kernel_rfl) ⟨⟨_, rfl, ?_⟩, ⟨_, rfl, ?_⟩, trivial⟩
        · refine ej rfl (bsl 5 DeedR.pc [(session_put m tick (lifeN tick m.m))] tv82 rfl rfl rfl rfl rfl (fun _ => rfl) rfl (by decide) (by decide) rfl fun u73 => ?_)
          refine ve 12 rfl (by kernel_rfl) rfl (storeA tv82 rfl rfl rfl rfl rfl rfl rfl rfl rfl rfl ?_)
          refine gov tv82 [13, 14] 0 rfl (by kernel_rfl) rfl rfl trivial ?_
          refine vdone (by kernel_rfl) ?_
          refine next (u73) rfl rfl ⟨rfl, rfl, trivial⟩ ⟨rfl, rfl, trivial⟩ (by decide) ?_
          exact ⟨w70, w71, w72⟩
        refine ej rfl (storeA tv82 rfl rfl rfl rfl rfl rfl rfl rfl rfl rfl ?_)
        refine gov tv82 [13] 2 rfl (by kernel_rfl) rfl rfl trivial ?_
        refine ve 11 rfl (by kernel_rfl) rfl (bsl 5 DeedR.pc [(session_put m tick (lifeN tick m.m))] tv82 rfl rfl rfl rfl rfl (fun _ => rfl) rfl (by decide) (by decide) rfl fun u74 => ?_)
        refine gov tv82 [14] 0 rfl (by kernel_rfl) rfl rfl trivial ?_
        refine vdone (by kernel_rfl) ?_
        refine next (u74) rfl rfl ⟨rfl, rfl, trivial⟩ ⟨rfl, rfl, trivial⟩ (by decide) ?_
        exact ⟨w70, w71, w72⟩
      generalize hr75 : session_Session_with s m r8.1 = r9
      generalize hr76 : session_put m tick (lifeN tick m.m) = r10
      rintro u69 ⟨w77, w78, w79⟩
      have e80 := e68.trans (lt_eq hr75.symm)
      have e81 := e80.trans (lt_eq hr76.symm)
      refine go tv82 1 rfl rfl trivial ?_
      refine givec 5 rfl ?_
      refine go tv82 4 rfl rfl trivial ?_
      have e82 := lp0_ret q_o e81
      exact rt3 rfl rfl (ple_of (fun r : SessionR × (List Reply) × (List DeedR) => .tup [.agg (SessionR.pc r.1), .sl Reply.pc r.2.1, .sl DeedR.pc r.2.2]) e82 (ple_tup (ples_cons (ple rfl) (ples_cons ple_nil (ples_cons (ple rfl) ples_nil)))))
    have p83 := df h26
    have e84 := e_o.trans (condF h26)
    refine go tv82 6 rfl rfl trivial ?_
    refine cnd rfl (fun h85 => ?_) (fun h85 => ?_)
    · have p86 := dt h85
      have e87 := e84.trans (condT h85)
      refine go tv82 4 rfl rfl trivial ?_
      refine callv (chans_Chan_Room ((A5.get s.slots ((m.channel).toNat)).chan)) (fun r : Int => .int .i64 r) (chans_Chan_Room_ok _ (by first | omega | exact sok_cr (by assumption) (by omega))) rfl rfl fun r11 hr88 w89 => ?_
      have e90 := e87.trans (lt_eq hr88)
      refine go tv82 3 rfl rfl trivial ?_
      refine cnd rfl (fun h91 => ?_) (fun h91 => ?_)
      · have p92 := dt h91
        have e93 := e90.trans (condT h91)
        refine go tv82 1 rfl rfl trivial ?_
        refine any [2, 5, 6, 7, 8, 9, 10] 6 mixd rfl ?_
        refine gov tv82 [0, 1] 4 rfl (by kernel_rfl) rfl rfl trivial ?_
        refine ve 2 rfl (by kernel_rfl) rfl (ecall (session_answer_ok m _) rfl rfl ?_)
        generalize hr95 : session_answer m 12 = r12
        intro w94
        have e96 := e93.trans (lt_eq hr95.symm)
        refine ve 3 rfl (by kernel_rfl) rfl (storeA tv82 rfl rfl rfl rfl rfl rfl rfl rfl rfl rfl ?_)
        refine gov tv82 [4, 5] 0 rfl (by kernel_rfl) rfl rfl trivial ?_
        refine vdone (by kernel_rfl) ?_
        refine go tv82 6 rfl rfl trivial ?_
        have e97 := lp0_ret q_o e96
        exact rt3 rfl rfl (ple_of (fun r : SessionR × (List Reply) × (List DeedR) => .tup [.agg (SessionR.pc r.1), .sl Reply.pc r.2.1, .sl DeedR.pc r.2.2]) e97 (ple_tup (ples_cons (ple rfl) (ples_cons (ple rfl) (ples_cons ple_nil ples_nil)))))
      have p98 := df h91
      have e99 := e90.trans (condF h91)
      refine go tv82 3 rfl rfl trivial ?_
      refine joinc (ι := Value) [6] [0, 1, 3, 4] (fun u100 => [(7, .val (.slice none 0 0)), (8, .osl 5)]) (fun u100 => [(2, .box b3 75 [.str s.place, .str s.feed.rest, .int .i64 s.feed.err, .bool s.begun, .bool s.over, .int .i64 s.slots.e0.chan.credit, .sl TakerR.pc s.slots.e0.chan.takers, .sl LentR.pc s.slots.e0.chan.lent, .bool s.slots.e0.chan.sure, .bool s.slots.e0.chan.drafts, .int .u64 s.slots.e0.chan.puts, .sl DeedR.pc s.slots.e0.chan.held.l, .bool s.slots.e0.isopen, .int .i64 s.slots.e1.chan.credit, .sl TakerR.pc s.slots.e1.chan.takers, .sl LentR.pc s.slots.e1.chan.lent, .bool s.slots.e1.chan.sure, .bool s.slots.e1.chan.drafts, .int .u64 s.slots.e1.chan.puts, .sl DeedR.pc s.slots.e1.chan.held.l, .bool s.slots.e1.isopen, .int .i64 s.slots.e2.chan.credit, .sl TakerR.pc s.slots.e2.chan.takers, .sl LentR.pc s.slots.e2.chan.lent, .bool s.slots.e2.chan.sure, .bool s.slots.e2.chan.drafts, .int .u64 s.slots.e2.chan.puts, .sl DeedR.pc s.slots.e2.chan.held.l, .bool s.slots.e2.isopen, .int .i64 s.slots.e3.chan.credit, .sl TakerR.pc s.slots.e3.chan.takers, .sl LentR.pc s.slots.e3.chan.lent, .bool s.slots.e3.chan.sure, .bool s.slots.e3.chan.drafts, .int .u64 s.slots.e3.chan.puts, .sl DeedR.pc s.slots.e3.chan.held.l, .bool s.slots.e3.isopen, .int .i64 s.slots.e4.chan.credit, .sl TakerR.pc s.slots.e4.chan.takers, .sl LentR.pc s.slots.e4.chan.lent, .bool s.slots.e4.chan.sure, .bool s.slots.e4.chan.drafts, .int .u64 s.slots.e4.chan.puts, .sl DeedR.pc s.slots.e4.chan.held.l, .bool s.slots.e4.isopen]), (5, .arr u100 29 53 DeedR.pc [(⟨7, tick, (⟨[], 0, []⟩ : ShopR), (⟨[], 0, 0, []⟩ : QueueR), (⟨[], [], false, [], [], false⟩ : BindR), m.name, 0, 0, 0, 0, 0, (⟨0, [], [], [], [], 0, 0⟩ : Mail), []⟩ : DeedR)])]) (fun u100 => True) ?_ ?_
      · refine any [2, 5, 6, 7, 8, 9, 10, 11, 12] 9 mixd rfl ?_
        refine gov tv82 [0, 1, 2, 3, 4] 4 rfl (by kernel_rfl) rfl rfl trivial ?_
        refine veL 5 [6] (by kernel_rfl) ⟨⟨_, rfl, ?_⟩, ⟨_, rfl, ?_⟩, trivial⟩
        · refine ej rfl (bsl 5 DeedR.pc [(⟨7, tick, (⟨[], 0, []⟩ : ShopR), (⟨[], 0, 0, []⟩ : QueueR), (⟨[], [], false, [], [], false⟩ : BindR), m.name, 0, 0, 0, 0, 0, (⟨0, [], [], [], [], 0, 0⟩ : Mail), []⟩ : DeedR)] tv82 rfl rfl rfl rfl rfl (fun _ => rfl) rfl (by decide) (by decide) rfl fun u101 => ?_)
          refine ve 6 rfl (by kernel_rfl) rfl (storeA tv82 rfl rfl rfl rfl rfl rfl rfl rfl rfl rfl ?_)
          refine gov tv82 [7, 8] 0 rfl (by kernel_rfl) rfl rfl trivial ?_
          refine vdone (by kernel_rfl) ?_
          refine next (u101) rfl rfl ⟨rfl, rfl, trivial⟩ ⟨rfl, rfl, trivial⟩ (by decide) ?_
          exact trivial
        refine ej rfl (storeA tv82 rfl rfl rfl rfl rfl rfl rfl rfl rfl rfl ?_)
        refine gov tv82 [7] 2 rfl (by kernel_rfl) rfl rfl trivial ?_
        refine ve 5 rfl (by kernel_rfl) rfl (bsl 5 DeedR.pc [(⟨7, tick, (⟨[], 0, []⟩ : ShopR), (⟨[], 0, 0, []⟩ : QueueR), (⟨[], [], false, [], [], false⟩ : BindR), m.name, 0, 0, 0, 0, 0, (⟨0, [], [], [], [], 0, 0⟩ : Mail), []⟩ : DeedR)] tv82 rfl rfl rfl rfl rfl (fun _ => rfl) rfl (by decide) (by decide) rfl fun u102 => ?_)
        refine gov tv82 [8] 0 rfl (by kernel_rfl) rfl rfl trivial ?_
        refine vdone (by kernel_rfl) ?_
        refine next (u102) rfl rfl ⟨rfl, rfl, trivial⟩ ⟨rfl, rfl, trivial⟩ (by decide) ?_
        exact trivial
      rintro u100 _
      refine go tv82 1 rfl rfl trivial ?_
      refine givec 5 rfl ?_
      refine go tv82 4 rfl rfl trivial ?_
      have e103 := lp0_ret q_o e99
      exact rt3 rfl rfl (ple_of (fun r : SessionR × (List Reply) × (List DeedR) => .tup [.agg (SessionR.pc r.1), .sl Reply.pc r.2.1, .sl DeedR.pc r.2.2]) e103 (ple_tup (ples_cons (ple rfl) (ples_cons ple_nil (ples_cons (ple rfl) ples_nil)))))
    have p104 := df h85
    have e105 := e84.trans (condF h85)
    refine go tv82 1 rfl rfl trivial ?_
    obtain ⟨o1, e_o1, q_o1⟩ := lt1_split e105
    refine joinc (ι := Bool) [2, 3, 4, 6, 7, 8, 9] [0, 1, 2, 3, 4] (fun v => [(109, .bool v)]) (fun v => []) (fun v => o1 = v) ?_ ?_
    · refine go tv82 6 rfl rfl trivial ?_
      refine cnd rfl (fun h106 => ?_) (fun h106 => ?_)
      · have p107 := dt h106
        have e108 := e_o1.trans (condT h106)
        refine go tv82 1 rfl rfl trivial ?_
        refine next (decide (m.kind = 16)) rfl rfl ⟨rfl, trivial⟩ trivial (by decide) ?_
        exact e108
      have p109 := df h106
      have e110 := e_o1.trans (condF h106)
      refine go tv82 4 rfl rfl trivial ?_
      refine next (decide (m.kind = 19)) rfl rfl ⟨rfl, trivial⟩ trivial (by decide) ?_
      exact e110
    rintro v hp111
    have e112 := lt1_fin q_o1 hp111
    refine go tv82 1 rfl rfl trivial ?_
    refine cnd rfl (fun h113 => ?_) (fun h113 => ?_)
    · have e114 := e112.trans (condT h113)
      refine go tv82 5 rfl rfl trivial ?_
      refine ef (ecallo 5 (session_settles_ok _ _ _ (by first | assumption | exact sok_at (by assumption) (by omega) (by omega) | exact qok_at (by assumption) (by omega) (by omega) | exact cok_le (by assumption) (by omega) | exact cok_zero _ | exact cok_new _)) rfl rfl ?_)
      generalize hr117 : session_settles ((A5.get s.slots ((m.channel).toNat)).chan) m tick = r13
      intro u116 w115
      have e118 := e114.trans (lt_eq hr117.symm)
      have hr117 := hr117.symm
      have hA118 := sset_len ((A5.get s.slots ((m.channel).toNat)).chan) m tick
      (try rw [← hr117] at hA118)
      refine go tv82 19 rfl rfl ⟨(fun hc => hc), (fun hc => hc), rfl, rfl, trivial⟩ ?_
      refine callg rfl (fun hc => (chans_Chan_Drafts_ok _)) rfl ⟨(fun hc => hc), trivial⟩ rfl rfl fun _ => ?_
      refine go tv82 3 rfl rfl ⟨rfl, rfl, trivial⟩ ?_
      refine cnd rfl (fun h120 => ?_) (fun h120 => ?_)
      · have h121 := bl h120
        have h122 := bl h121
        have p123 := dt h122
        have h124 := br h121
        have p125 := dt h124
        have h126 := br h120
        have e127 := e118.trans (condT h120)
        refine go tv82 1 rfl rfl trivial ?_
        refine sw_osl (t := 17) 5 rfl rfl ?_
        refine any [5, 6, 7, 8, 9, 10, 11] 9 mixd rfl ?_
        refine gov tv82 [0, 1] 7 rfl (by kernel_rfl) rfl rfl trivial ?_
        refine ve 2 rfl (by kernel_rfl) rfl (ecallw (session_at_ok _ _) rfl rfl rfl rfl rfl rfl ?_)
        generalize hr130 : session_at r13.1 0 = r14
        intro u128 w129
        have e131 := e127.trans (lt_eq hr130.symm)
        have hr130 := hr130.symm
        have hA131 := sat_len r13.1 0
        (try rw [← hr130] at hA131)
        refine sv_osl (t := 133) 5 rfl rfl ?_
        refine ve 3 rfl (by kernel_rfl) rfl (egive 5 rfl (eweak (ecall (chans_Chan_Hold_ok ((A5.get s.slots ((m.channel).toNat)).chan) _ (by first | omega | exact sok_hd (by assumption) (by omega) (by omega))) rfl rfl ?_)))
        generalize hr134 : chans_Chan_Hold ((A5.get s.slots ((m.channel).toNat)).chan) r14 = r15
        intro w133
        have e135 := e131.trans (lt_eq hr134.symm)
        refine gov tv82 [4, 5, 6] 2 rfl (by kernel_rfl) rfl rfl trivial ?_
        refine vtp 7 rfl (by kernel_rfl) (by kernel_rfl) (storeA tv82 rfl rfl rfl rfl rfl rfl rfl rfl rfl rfl ?_)
        refine gov tv82 [8] 0 rfl (by kernel_rfl) rfl rfl trivial ?_
        refine vdone (by kernel_rfl) ?_
        refine go tv82 2 rfl rfl trivial ?_
        refine any [2, 5, 6, 7, 8, 9, 10] 10 mixd rfl ?_
        refine gov tv82 [0, 1, 2, 4, 5] 5 rfl (by kernel_rfl) rfl rfl trivial ?_
        refine ve 3 rfl (by kernel_rfl) rfl (ecall (session_Session_with_ok s m r15.1 (by omega)) rfl rfl ?_)
        generalize hr137 : session_Session_with s m r15.1 = r16
        intro w136
        have e138 := e135.trans (lt_eq hr137.symm)
        refine ve 6 rfl (by kernel_rfl) rfl (ecall (session_answer_ok m _) rfl rfl ?_)
        generalize hr140 : session_answer m r15.2 = r17
        intro w139
        have e141 := e138.trans (lt_eq hr140.symm)
        refine ve 7 rfl (by kernel_rfl) rfl (storeA tv82 rfl rfl rfl rfl rfl rfl rfl rfl rfl rfl ?_)
        refine gov tv82 [8, 9] 0 rfl (by kernel_rfl) rfl rfl trivial ?_
        refine vdone (by kernel_rfl) ?_
        refine go tv82 6 rfl rfl trivial ?_
        have e142 := lp0_ret q_o e141
        exact rt3 rfl rfl (ple_of (fun r : SessionR × (List Reply) × (List DeedR) => .tup [.agg (SessionR.pc r.1), .sl Reply.pc r.2.1, .sl DeedR.pc r.2.2]) e142 (ple_tup (ples_cons (ple rfl) (ples_cons (ple rfl) (ples_cons ple_nil ples_nil)))))
      have e143 := e118.trans (condF h120)
      refine go tv82 8 rfl rfl trivial ?_
      refine bcase (!decide (r13.2 = 0)) (fun h144 => ?_) (fun h144 => ?_)
      · have h145 := not_t h144
        have p146 := df h145
        have e147 := e143.trans (condT h144)
        refine so_rt (t := 145) (p' := .bool true) (ple (congrArg PV.bool h144)) rfl ?_
        refine so_rt (t := 146) (p' := .bool true) (ple (congrArg PV.bool h144)) rfl ?_
        refine ungs rfl rfl rfl ?_
        refine ungs rfl rfl rfl ?_
        refine ungs rfl rfl rfl ?_
        refine go tv82 5 rfl rfl trivial ?_
        refine any [2, 6, 7, 8, 9, 10, 11] 7 mixd rfl ?_
        refine gov tv82 [0, 1, 2] 4 rfl (by kernel_rfl) rfl rfl trivial ?_
        refine ve 3 rfl (by kernel_rfl) rfl (ecall (session_answer_ok m _) rfl rfl ?_)
        generalize hr149 : session_answer m r13.2 = r18
        intro w148
        have e150 := e147.trans (lt_eq hr149.symm)
        refine ve 4 rfl (by kernel_rfl) rfl (storeA tv82 rfl rfl rfl rfl rfl rfl rfl rfl rfl rfl ?_)
        refine gov tv82 [5, 6] 0 rfl (by kernel_rfl) rfl rfl trivial ?_
        refine vdone (by kernel_rfl) ?_
        refine go tv82 6 rfl rfl trivial ?_
        have e151 := lp0_ret q_o e150
        exact rt3 rfl rfl (ple_of (fun r : SessionR × (List Reply) × (List DeedR) => .tup [.agg (SessionR.pc r.1), .sl Reply.pc r.2.1, .sl DeedR.pc r.2.2]) e151 (ple_tup (ples_cons (ple rfl) (ples_cons (ple rfl) (ples_cons ple_nil ples_nil)))))
      have h152 := not_f h144
      have p153 := dt h152
      have e154 := e143.trans (condF h144)
      refine so_rt (t := 145) (p' := .bool false) (ple (congrArg PV.bool h144)) rfl ?_
      refine so_rt (t := 146) (p' := .bool false) (ple (congrArg PV.bool h144)) rfl ?_
      refine ungd rfl rfl ?_
      refine go tv82 1 rfl rfl trivial ?_
      refine ungd rfl rfl ?_
      refine so_osl (t := 147) 5 rfl rfl ?_
      refine go tv82 1 rfl rfl trivial ?_
      refine ungd rfl rfl ?_
      refine go tv82 4 rfl rfl trivial ?_
      refine cnd rfl (fun h155 => ?_) (fun h155 => ?_)
      · have p156 := dt h155
        have e157 := e154.trans (condT h155)
        refine go tv82 1 rfl rfl trivial ?_
        refine any [2, 6, 7, 8, 9, 10, 11] 7 mixd rfl ?_
        refine gov tv82 [0, 1, 2] 4 rfl (by kernel_rfl) rfl rfl trivial ?_
        refine ve 3 rfl (by kernel_rfl) rfl (ecall (session_answer_ok m _) rfl rfl ?_)
        generalize hr159 : session_answer m r13.2 = r19
        intro w158
        have e160 := e157.trans (lt_eq hr159.symm)
        refine ve 4 rfl (by kernel_rfl) rfl (storeA tv82 rfl rfl rfl rfl rfl rfl rfl rfl rfl rfl ?_)
        refine gov tv82 [5, 6] 0 rfl (by kernel_rfl) rfl rfl trivial ?_
        refine vdone (by kernel_rfl) ?_
        refine go tv82 6 rfl rfl trivial ?_
        have e161 := lp0_ret q_o e160
        exact rt3 rfl rfl (ple_of (fun r : SessionR × (List Reply) × (List DeedR) => .tup [.agg (SessionR.pc r.1), .sl Reply.pc r.2.1, .sl DeedR.pc r.2.2]) e161 (ple_tup (ples_cons (ple rfl) (ples_cons (ple rfl) (ples_cons ple_nil ples_nil)))))
      have p162 := df h155
      have e163 := e154.trans (condF h155)
      refine go tv82 6 rfl rfl trivial ?_
      refine ef (storeA tv82 rfl rfl rfl rfl rfl rfl rfl rfl rfl rfl ?_)
      refine go tv82 4 rfl rfl trivial ?_
      refine sw_osl (t := 8) 5 rfl rfl ?_
      refine sw_osl (t := 117) 5 rfl rfl ?_
      refine sw_osl (t := 17) 5 rfl rfl ?_
      refine sw_osl (t := 156) 5 rfl rfl ?_
      refine givec 5 rfl ?_
      refine go tv82 4 rfl rfl trivial ?_
      have e164 := lp0_ret q_o e163
      exact rt3 rfl rfl (ple_of (fun r : SessionR × (List Reply) × (List DeedR) => .tup [.agg (SessionR.pc r.1), .sl Reply.pc r.2.1, .sl DeedR.pc r.2.2]) e164 (ple_tup (ples_cons (ple rfl) (ples_cons ple_nil (ples_cons (ple rfl) ples_nil)))))
    have e165 := e112.trans (condF h113)
    refine go tv82 2 rfl rfl trivial ?_
    refine next () rfl rfl trivial trivial (by decide) ?_
    exact e165
  rintro _ hp166
  have e167 := lp0_fin q_o hp166
  refine go tv82 5 rfl rfl trivial ?_
  refine callv (session_back ((A5.get s.slots ((m.channel).toNat)).chan) tick) (fun r : (List DeedR) => .sl DeedR.pc r) (session_back_ok _ _ (by first | assumption | exact sok_at (by assumption) (by omega) (by omega) | exact qok_at (by assumption) (by omega) (by omega) | exact cok_le (by assumption) (by omega) | exact cok_zero _ | exact cok_new _)) rfl rfl fun r20 hr168 w169 => ?_
  have e170 := e167.trans (lt_eq hr168)
  have hA170 := sback_len ((A5.get s.slots ((m.channel).toNat)).chan) tick
  (try rw [← hr168] at hA170)
  (try have hA171 := cok_ln (c := ((A5.get s.slots ((m.channel).toNat)).chan)) (n := 10000000) (by first | assumption | exact sok_at (by assumption) (by omega) (by omega)))
  (try rw [← hr168] at hA171)
  refine go tv82 11 rfl rfl trivial ?_
  refine cnd rfl (fun h173 => ?_) (fun h173 => ?_)
  · have p174 := dt h173
    have e175 := e170.trans (condT h173)
    refine go tv82 4 rfl rfl trivial ?_
    refine callv (session_Session_Told s m [] 0) (fun r : SessionR × (List Reply) => .tup [.agg (SessionR.pc r.1), .sl Reply.pc r.2]) (Fn.le (session_Session_Told_ok _ _ [] _ (by first | assumption | exact sok_le (by assumption) (by omega)) (by first | assumption | simp | exact res_heads (by simp) (by omega))) (ples_cons (ple rfl) (ples_cons (ple rfl) (ples_cons ple_nil (ples_cons (ple rfl) ples_nil)))) (ple rfl) rfl) rfl rfl fun r21 hr176 w177 => ?_
    have e178 := e175.trans (lt_eq hr176)
    (try have hA178 := (stold_P (m := m) (l := []) (e := 0) (show SOk s _ by assumption) (Nat.le_succ _) (fun _ => Nat.le_refl _) (by first | assumption | exact res_heads (by simp) (by omega) | simp) (by omega)).1)
    (try rw [← hr176] at hA178)
    (try have hA179 := (stold_P (m := m) (l := []) (e := 0) (show SOk s _ by assumption) (Nat.le_succ _) (fun _ => Nat.le_refl _) (by first | assumption | exact res_heads (by simp) (by omega) | simp) (by omega)).2.1)
    (try rw [← hr176] at hA179)
    (try have hA180 := (stold_P (m := m) (l := []) (e := 0) (show SOk s _ by assumption) (Nat.le_succ _) (fun _ => Nat.le_refl _) (by first | assumption | exact res_heads (by simp) (by omega) | simp) (by omega)).2.2)
    (try rw [← hr176] at hA180)
    refine go tv82 3 rfl rfl trivial ?_
    refine ef (alloc tv82 5 rfl rfl rfl rfl fun b182 => ?_)
    refine ef (storeA tv82 rfl rfl rfl rfl rfl rfl rfl rfl rfl rfl ?_)
    refine go tv82 7 rfl rfl trivial ?_
    refine ef (storeA tv82 rfl rfl rfl rfl rfl rfl rfl rfl rfl rfl ?_)
    refine go tv82 6 rfl rfl trivial ?_
    exact rt3 rfl rfl (ple_of (fun r : SessionR × (List Reply) × (List DeedR) => .tup [.agg (SessionR.pc r.1), .sl Reply.pc r.2.1, .sl DeedR.pc r.2.2]) e178 (ple_tup (ples_cons (ple rfl) (ples_cons (ple rfl) (ples_cons ple_nil ples_nil)))))
  have p183 := df h173
  have e184 := e170.trans (condF h173)
  refine go tv82 6 rfl rfl trivial ?_
  refine ef (storeA tv82 rfl rfl rfl rfl rfl rfl rfl rfl rfl rfl ?_)
  refine go tv82 5 rfl rfl trivial ?_
  exact rt3 rfl rfl (ple_of (fun r : SessionR × (List Reply) × (List DeedR) => .tup [.agg (SessionR.pc r.1), .sl Reply.pc r.2.1, .sl DeedR.pc r.2.2]) e184 (ple_tup (ples_cons (ple rfl) (ples_cons ple_nil (ples_cons (ple rfl) ples_nil)))))
theorem session_Session_Plan_ok (s : SessionR) (m : Method) (tick : Int) (hs : SOk s 10000000) (hh : m.head.length ≤ 1000000) : Fn Tryz.prog gb 20 [.agg (SessionR.pc s), .agg (Method.pc m), .int .u64 tick] (.tup [.agg (SessionR.pc ((session_Session_Plan s m tick).1)), .sl Reply.pc ((session_Session_Plan s m tick).2.1), .sl DeedR.pc ((session_Session_Plan s m tick).2.2.1), .int .i64 ((session_Session_Plan s m tick).2.2.2)]) := by
  refine fn_cw tv82 Tryz.func20 rfl Tryz.ntmps20 rfl cb20 rfl rfl fun w N H hG => ?_
  have s_place_l : s.place.length ≤ 9223372036854775807 := w.1.1
  have s_feed_rest_l : s.feed.rest.length ≤ 9223372036854775807 := w.1.2.1
  have s_feed_err_r : -9223372036854775808 ≤ s.feed.err ∧ s.feed.err ≤ 9223372036854775807 := w.1.2.2.1
  have s_slots_e0_chan_credit_r : -9223372036854775808 ≤ s.slots.e0.chan.credit ∧ s.slots.e0.chan.credit ≤ 9223372036854775807 := w.1.2.2.2.2.2.1
  have s_slots_e0_chan_puts_r : 0 ≤ s.slots.e0.chan.puts ∧ s.slots.e0.chan.puts ≤ 18446744073709551615 := w.1.2.2.2.2.2.2.2.2.2.2.1
  have s_slots_e1_chan_credit_r : -9223372036854775808 ≤ s.slots.e1.chan.credit ∧ s.slots.e1.chan.credit ≤ 9223372036854775807 := w.1.2.2.2.2.2.2.2.2.2.2.2.2.2.1
  have s_slots_e1_chan_puts_r : 0 ≤ s.slots.e1.chan.puts ∧ s.slots.e1.chan.puts ≤ 18446744073709551615 := w.1.2.2.2.2.2.2.2.2.2.2.2.2.2.2.2.2.2.2.1
  have s_slots_e2_chan_credit_r : -9223372036854775808 ≤ s.slots.e2.chan.credit ∧ s.slots.e2.chan.credit ≤ 9223372036854775807 := w.1.2.2.2.2.2.2.2.2.2.2.2.2.2.2.2.2.2.2.2.2.2.1
  have s_slots_e2_chan_puts_r : 0 ≤ s.slots.e2.chan.puts ∧ s.slots.e2.chan.puts ≤ 18446744073709551615 := w.1.2.2.2.2.2.2.2.2.2.2.2.2.2.2.2.2.2.2.2.2.2.2.2.2.2.2.1
  have s_slots_e3_chan_credit_r : -9223372036854775808 ≤ s.slots.e3.chan.credit ∧ s.slots.e3.chan.credit ≤ 9223372036854775807 := w.1.2.2.2.2.2.2.2.2.2.2.2.2.2.2.2.2.2.2.2.2.2.2.2.2.2.2.2.2.2.1
  have s_slots_e3_chan_puts_r : 0 ≤ s.slots.e3.chan.puts ∧ s.slots.e3.chan.puts ≤ 18446744073709551615 := w.1.2.2.2.2.2.2.2.2.2.2.2.2.2.2.2.2.2.2.2.2.2.2.2.2.2.2.2.2.2.2.2.2.2.2.1
  have s_slots_e4_chan_credit_r : -9223372036854775808 ≤ s.slots.e4.chan.credit ∧ s.slots.e4.chan.credit ≤ 9223372036854775807 := w.1.2.2.2.2.2.2.2.2.2.2.2.2.2.2.2.2.2.2.2.2.2.2.2.2.2.2.2.2.2.2.2.2.2.2.2.2.2.1
  have s_slots_e4_chan_puts_r : 0 ≤ s.slots.e4.chan.puts ∧ s.slots.e4.chan.puts ≤ 18446744073709551615 := w.1.2.2.2.2.2.2.2.2.2.2.2.2.2.2.2.2.2.2.2.2.2.2.2.2.2.2.2.2.2.2.2.2.2.2.2.2.2.2.2.2.2.2.1
  have m_channel_r : 0 ≤ m.channel ∧ m.channel ≤ 255 := w.2.1.1
  have m_kind_r : 0 ≤ m.kind ∧ m.kind ≤ 255 := w.2.1.2.1
  have m_name_l : m.name.length ≤ 9223372036854775807 := w.2.1.2.2.1
  have m_other_l : m.other.length ≤ 9223372036854775807 := w.2.1.2.2.2.1
  have m_key_l : m.key.length ≤ 9223372036854775807 := w.2.1.2.2.2.2.1
  have m_head_l : m.head.length ≤ 140737488355328 := w.2.1.2.2.2.2.2.1.1
  have m_body_l : m.body.length ≤ 9223372036854775807 := w.2.1.2.2.2.2.2.2.1
  have m_n_r : 0 ≤ m.n ∧ m.n ≤ 18446744073709551615 := w.2.1.2.2.2.2.2.2.2.1
  have m_m_r : 0 ≤ m.m ∧ m.m ≤ 18446744073709551615 := w.2.1.2.2.2.2.2.2.2.2.1
  have tick_r : 0 ≤ tick ∧ tick ≤ 18446744073709551615 := w.2.2.1
  have e0 := session_Session_Plan.eq_1 s m tick
  refine go tv82 2 rfl rfl trivial ?_
  refine ef (boxA 0 rfl rfl rfl fun b1 => ?_)
  refine ef (boxA 1 rfl rfl rfl fun b2 => ?_)
  refine ef (alloc tv82 2 rfl rfl rfl rfl fun b3 => ?_)
  refine go tv82 10 rfl rfl trivial ?_
  refine callv (session_Session_may s m) (fun r : Int => .int .i64 r) (session_Session_may_ok _ _) rfl rfl fun r hr4 w5 => ?_
  have e6 := e0.trans (lt_eq hr4)
  have hA6 := smay_ch s m
  (try rw [← hr4] at hA6)
  refine go tv82 9 rfl rfl trivial ?_
  refine cnd rfl (fun h8 => ?_) (fun h8 => ?_)
  · have h9 := not_t h8
    have p10 := df h9
    have e11 := e6.trans (condT h8)
    refine go tv82 4 rfl rfl trivial ?_
    refine ef (storeA tv82 rfl rfl rfl rfl rfl rfl rfl rfl rfl rfl ?_)
    refine go tv82 7 rfl rfl trivial ?_
    exact rt4 rfl rfl (ple_of (fun r : SessionR × (List Reply) × (List DeedR) × Int => .tup [.agg (SessionR.pc r.1), .sl Reply.pc r.2.1, .sl DeedR.pc r.2.2.1, .int .i64 r.2.2.2]) e11 (ple_tup (ples_cons (ple rfl) (ples_cons ple_nil (ples_cons ple_nil (ples_cons (ple rfl) ples_nil))))))
  have h12 := not_f h8
  have p13 := dt h12
  have e14 := e6.trans (condF h8)
  refine go tv82 16 rfl rfl trivial ?_
  refine cnd rfl (fun h15 => ?_) (fun h15 => ?_)
  · have p16 := dt h15
    have e17 := e14.trans (condT h15)
    refine go tv82 3 rfl rfl trivial ?_
    refine ef (store1 tv82 rfl rfl rfl rfl rfl rfl rfl rfl rfl ?_)
    refine go tv82 3 rfl rfl trivial ?_
    refine joinc (ι := Value) [6] [0, 1] (fun u18 => [(7, .osl 3), (8, .val (.slice none 0 0)), (9, .int .i64 0)]) (fun u18 => [(2, .box b3 75 [.str s.place, .str s.feed.rest, .int .i64 s.feed.err, .bool true, .bool s.over, .int .i64 s.slots.e0.chan.credit, .sl TakerR.pc s.slots.e0.chan.takers, .sl LentR.pc s.slots.e0.chan.lent, .bool s.slots.e0.chan.sure, .bool s.slots.e0.chan.drafts, .int .u64 s.slots.e0.chan.puts, .sl DeedR.pc s.slots.e0.chan.held.l, .bool s.slots.e0.isopen, .int .i64 s.slots.e1.chan.credit, .sl TakerR.pc s.slots.e1.chan.takers, .sl LentR.pc s.slots.e1.chan.lent, .bool s.slots.e1.chan.sure, .bool s.slots.e1.chan.drafts, .int .u64 s.slots.e1.chan.puts, .sl DeedR.pc s.slots.e1.chan.held.l, .bool s.slots.e1.isopen, .int .i64 s.slots.e2.chan.credit, .sl TakerR.pc s.slots.e2.chan.takers, .sl LentR.pc s.slots.e2.chan.lent, .bool s.slots.e2.chan.sure, .bool s.slots.e2.chan.drafts, .int .u64 s.slots.e2.chan.puts, .sl DeedR.pc s.slots.e2.chan.held.l, .bool s.slots.e2.isopen, .int .i64 s.slots.e3.chan.credit, .sl TakerR.pc s.slots.e3.chan.takers, .sl LentR.pc s.slots.e3.chan.lent, .bool s.slots.e3.chan.sure, .bool s.slots.e3.chan.drafts, .int .u64 s.slots.e3.chan.puts, .sl DeedR.pc s.slots.e3.chan.held.l, .bool s.slots.e3.isopen, .int .i64 s.slots.e4.chan.credit, .sl TakerR.pc s.slots.e4.chan.takers, .sl LentR.pc s.slots.e4.chan.lent, .bool s.slots.e4.chan.sure, .bool s.slots.e4.chan.drafts, .int .u64 s.slots.e4.chan.puts, .sl DeedR.pc s.slots.e4.chan.held.l, .bool s.slots.e4.isopen]), (3, .arr u18 13 137 Reply.pc [(⟨0, 0, 0, 0, false, s.place, (⟨0, [], [], [], [], 0, 0⟩ : Mail)⟩ : Reply)])]) (fun u18 => True) ?_ ?_
    · refine any [2, 3, 4, 5, 6, 7, 8, 9, 10] 9 mixd rfl ?_
      refine gov tv82 [0, 1, 2, 3] 5 rfl (by kernel_rfl) rfl rfl trivial ?_
      refine veL 4 [5] (by kernel_rfl) ⟨⟨_, rfl, ?_⟩, ⟨_, rfl, ?_⟩, trivial⟩
      · refine ej rfl (bsl 3 Reply.pc [(⟨0, 0, 0, 0, false, s.place, (⟨0, [], [], [], [], 0, 0⟩ : Mail)⟩ : Reply)] tv82 rfl rfl rfl rfl rfl (fun _ => rfl) rfl (by decide) (by decide) rfl fun u19 => ?_)
        refine ve 5 rfl (by kernel_rfl) rfl (storeA tv82 rfl rfl rfl rfl rfl rfl rfl rfl rfl rfl ?_)
        refine gov tv82 [6, 7, 8] 0 rfl (by kernel_rfl) rfl rfl trivial ?_
        refine vdone (by kernel_rfl) ?_
        refine next (u19) rfl rfl ⟨rfl, rfl, rfl, trivial⟩ ⟨rfl, rfl, trivial⟩ (by decide) ?_
        exact trivial
      refine ej rfl (storeA tv82 rfl rfl rfl rfl rfl rfl rfl rfl rfl rfl ?_)
      refine ve 4 rfl (by kernel_rfl) rfl (bsl 3 Reply.pc [(⟨0, 0, 0, 0, false, s.place, (⟨0, [], [], [], [], 0, 0⟩ : Mail)⟩ : Reply)] tv82 rfl rfl rfl rfl rfl (fun _ => rfl) rfl (by decide) (by decide) rfl fun u20 => ?_)
      refine gov tv82 [6, 7, 8] 0 rfl (by kernel_rfl) rfl rfl trivial ?_
      refine vdone (by kernel_rfl) ?_
      refine next (u20) rfl rfl ⟨rfl, rfl, rfl, trivial⟩ ⟨rfl, rfl, trivial⟩ (by decide) ?_
      exact trivial
    rintro u18 _
    refine go tv82 1 rfl rfl trivial ?_
    refine givec 3 rfl ?_
    refine go tv82 3 rfl rfl trivial ?_
    exact rt4 rfl rfl (ple_of (fun r : SessionR × (List Reply) × (List DeedR) × Int => .tup [.agg (SessionR.pc r.1), .sl Reply.pc r.2.1, .sl DeedR.pc r.2.2.1, .int .i64 r.2.2.2]) e17 (ple_tup (ples_cons (ple rfl) (ples_cons (ple rfl) (ples_cons ple_nil (ples_cons (ple rfl) ples_nil))))))
  have p21 := df h15
  have e22 := e14.trans (condF h15)
  refine go tv82 6 rfl rfl trivial ?_
  refine cnd rfl (fun h23 => ?_) (fun h23 => ?_)
  · have p24 := dt h23
    have e25 := e22.trans (condT h23)
    refine go tv82 1 rfl rfl trivial ?_
    refine any [3, 4, 5, 6, 7, 8] 7 mixd rfl ?_
    refine gov tv82 [0, 1, 4] 4 rfl (by kernel_rfl) rfl rfl trivial ?_
    refine ve 2 rfl (by kernel_rfl) rfl (ecall chans_New_ok rfl rfl ?_)
    generalize hr27 : chans_New = r1
    intro w26
    have e28 := e25.trans (lt_eq hr27.symm)
    have hr27 := hr27.symm
    have hA28 := cok_new 0
    (try rw [← hr27] at hA28)
    refine gov tv82 [3] 2 rfl (by kernel_rfl) rfl rfl trivial ?_
    refine vq 5 (qaia (m.channel).toNat rfl rfl Tryz.underlying73 sz72 (by omega) (by omega)) rfl (by kernel_rfl) rfl fun w30 => ?_
    refine vtp 6 rfl (by kernel_rfl) (by kernel_rfl) (ostoreSA (sz := 8) (len := 5) (fun q => SessionR.pc (⟨s.place, s.feed, s.begun, s.over, (A5.set s.slots (⟨r1, true⟩ : SlotR) q)⟩ : SessionR)) ((m.channel).toNat) 5 8 0 tv82 rfl rfl rfl rfl rfl rfl rfl rfl rfl (by omega) (bw5 rfl rfl rfl rfl rfl) rfl (bw5 rfl rfl rfl rfl rfl) rfl ?_)
    refine vdone (by kernel_rfl) ?_
    refine go tv82 2 rfl rfl trivial ?_
    refine any [2, 3, 4, 5, 6, 7, 8] 7 mixd rfl ?_
    refine gov tv82 [0, 1] 5 rfl (by kernel_rfl) rfl rfl trivial ?_
    refine ve 2 rfl (by kernel_rfl) rfl (ecall (session_answer_ok m _) rfl rfl ?_)
    generalize hr32 : session_answer m 0 = r2
    intro w31
    have e33 := e28.trans (lt_eq hr32.symm)
    refine ve 3 rfl (by kernel_rfl) rfl (storeA tv82 rfl rfl rfl rfl rfl rfl rfl rfl rfl rfl ?_)
    refine gov tv82 [4, 5, 6] 0 rfl (by kernel_rfl) rfl rfl trivial ?_
    refine vdone (by kernel_rfl) ?_
    refine go tv82 4 rfl rfl trivial ?_
    exact rt4 rfl rfl (ple_of (fun r : SessionR × (List Reply) × (List DeedR) × Int => .tup [.agg (SessionR.pc r.1), .sl Reply.pc r.2.1, .sl DeedR.pc r.2.2.1, .int .i64 r.2.2.2]) e33 (ple_tup (ples_cons (ple rfl) (ples_cons (ple rfl) (ples_cons ple_nil (ples_cons (ple rfl) ples_nil))))))
  have p34 := df h23
  have e35 := e22.trans (condF h23)
  refine go tv82 8 rfl rfl trivial ?_
  refine callv (session_Session_plan s m tick) (fun r : SessionR × (List Reply) × (List DeedR) => .tup [.agg (SessionR.pc r.1), .sl Reply.pc r.2.1, .sl DeedR.pc r.2.2]) (session_Session_plan_ok _ _ _ (by first | assumption | exact sok_le (by assumption) (by omega)) (by omega) (by omega)) rfl rfl fun r3 hr36 w37 => ?_
  have e38 := e35.trans (lt_eq hr36)
  refine go tv82 4 rfl rfl trivial ?_
  refine ef (storeA tv82 rfl rfl rfl rfl rfl rfl rfl rfl rfl rfl ?_)
  refine go tv82 9 rfl rfl trivial ?_
  refine ef (storeA tv82 rfl rfl rfl rfl rfl rfl rfl rfl rfl rfl ?_)
  refine go tv82 6 rfl rfl trivial ?_
  exact rt4 rfl rfl (ple_of (fun r : SessionR × (List Reply) × (List DeedR) × Int => .tup [.agg (SessionR.pc r.1), .sl Reply.pc r.2.1, .sl DeedR.pc r.2.2.1, .int .i64 r.2.2.2]) e38 (ple rfl))
theorem session_Session_Takers_ok (s : SessionR) (hs : SOk s 10000000) : Fn Tryz.prog gb 24 [.agg (SessionR.pc s)] (.sl TakerS.pc (session_Session_Takers s)) := by
  refine fn_cw tv82 Tryz.func24 rfl Tryz.ntmps24 rfl cb24 rfl rfl fun w N H hG => ?_
  have e0 := session_Session_Takers.eq_1 s
  refine go tv82 2 rfl rfl trivial ?_
  refine ef (boxA 0 rfl rfl rfl fun b1 => ?_)
  refine go tv82 17 rfl rfl trivial ?_
  refine sw_own (t := 3) (k := 3) (e := 153) 1 TakerS.pc rfl rfl ?_
  refine loop (ι := Nat × (List TakerS) × Nat × Value) [2, 9] [0] (fun ⟨f, out, v, u_out⟩ => [(3, .osl 1), (10, .int .i64 (v : Int))]) (fun ⟨f, out, v, u_out⟩ => [(1, .arr u_out 3 153 TakerS.pc out)]) (fun ⟨f, out, v, u_out⟩ => 5 - v < f ∧ session_Session_Takers s = session_Session_Takers_l0 s f out v ∧ out.length ≤ v * 4 ∧ v ≤ 5) (fun ⟨f, out, v, u_out⟩ => f) ⟨(5 - 0 + 1), [], 0, (.slice none 0 0)⟩ ⟨rfl, rfl, trivial⟩ ⟨rfl, trivial⟩ ?_ ?_
  · exact ⟨Nat.lt_succ_self _, e0, ⟨by simp, by omega⟩⟩
  rintro ⟨f, out, v, u_out⟩ ⟨hp2_1, hp2_2, hp2_3⟩
  obtain ⟨f1, rfl⟩ : ∃ q, f = q + 1 := ⟨f - 1, by omega⟩
  have e_f1 := hp2_2.trans (session_Session_Takers_l0.eq_2 _ _ _ _)
  refine go tv82 6 rfl rfl trivial ?_
  refine cnd rfl (fun h3 => ?_) (fun h3 => ?_)
  · have p4 := dt h3
    have e5 := e_f1.trans (condT h3)
    refine go tv82 3 rfl rfl trivial ?_
    obtain ⟨o, e_o, q_o⟩ := lt1_split e5
    refine joinc (ι := (List TakerS) × Value) [2, 9, 10] [0] (fun ⟨out1, u_out1⟩ => [(3, .osl 1)]) (fun ⟨out1, u_out1⟩ => [(1, .arr u_out1 3 153 TakerS.pc out1)]) (fun ⟨out1, u_out1⟩ => o = out1 ∧ out1.length ≤ v * 4 + 4) ?_ ?_
    · refine go tv82 4 rfl rfl trivial ?_
      refine q1 (qaivA (fun q => [.int .i64 ((A5.get s.slots q).chan.credit), .sl TakerR.pc ((A5.get s.slots q).chan.takers), .sl LentR.pc ((A5.get s.slots q).chan.lent), .bool ((A5.get s.slots q).chan.sure), .bool ((A5.get s.slots q).chan.drafts), .int .u64 ((A5.get s.slots q).chan.puts), .sl DeedR.pc ((A5.get s.slots q).chan.held.l), .bool ((A5.get s.slots q).isopen)]) v tv82 rfl rfl Tryz.underlying73 rfl rfl rfl rfl (by omega) (bw5 rfl rfl rfl rfl rfl)) rfl fun w6 => ?_
      refine ef (alloc tv82 2 rfl rfl rfl rfl fun b7 => ?_)
      refine go tv82 1 rfl rfl trivial ?_
      refine ef (storeA tv82 rfl rfl rfl rfl rfl rfl rfl rfl rfl rfl ?_)
      refine go tv82 9 rfl rfl ⟨(fun hc => hc), trivial⟩ ?_
      refine callg rfl (fun hc => (chans_Chan_Room_ok _ (by first | omega | exact sok_cr (by assumption) (by omega)))) rfl ⟨(fun hc => hc), trivial⟩ rfl rfl fun _ => ?_
      refine go tv82 4 rfl rfl ⟨(fun hc => hc), rfl, rfl, trivial⟩ ?_
      refine cnd rfl (fun h8 => ?_) (fun h8 => ?_)
      · have h9 := bl h8
        have h10 := br h8
        have p11 := dt h10
        have e12 := e_o.trans (condT h8)
        refine go tv82 4 rfl rfl trivial ?_
        refine callv (chans_Chan_Takers ((A5.get s.slots v).chan)) (fun r : (List TakerR) => .sl TakerR.pc r) (chans_Chan_Takers_ok _ (by first | omega | exact sok_tk (by assumption) (by omega) (by omega))) rfl rfl fun r hr13 w14 => ?_
        have e15 := e12.trans (lt_eq hr13)
        have hA15 := tks_len ((A5.get s.slots v).chan)
        (try rw [← hr13] at hA15)
        refine go tv82 5 rfl rfl trivial ?_
        refine loop (ι := Nat × (List TakerS) × Value) [2, 4, 9, 10, 24, 25] [0, 2] (fun ⟨k, out2, u_out2⟩ => [(26, .int .i64 (k : Int)), (3, .osl 1)]) (fun ⟨k, out2, u_out2⟩ => [(1, .arr u_out2 3 153 TakerS.pc out2)]) (fun ⟨k, out2, u_out2⟩ => k ≤ r.length ∧ o = session_Session_Takers_l1 v (r.drop k)  out2 ∧ out2.length ≤ k + out.length ∧ r.length ≤ 4) (fun ⟨k, out2, u_out2⟩ => r.length - k) ⟨0, out, (u_out)⟩ ⟨rfl, rfl, trivial⟩ ⟨rfl, trivial⟩ ?_ ?_
        · exact ⟨Nat.zero_le _, e15, ⟨by omega, by have hq := sok_tk (k := v) (m := 4) hs (by omega) (by omega); omega⟩⟩
        rintro ⟨k, out2, u_out2⟩ ⟨hp17_1, hp17_2, hp17_3⟩
        refine go tv82 6 rfl rfl trivial ?_
        refine cnd rfl (fun h18 => ?_) (fun h18 => ?_)
        · have p19 := dt h18
          have e20 := lstep (f := fun zz => session_Session_Takers_l1 v zz  out2) hp17_2 (dropG (by omega)) (session_Session_Takers_l1.eq_2 _ _ _ _)
          have hc21 := getG (xs := r) (k := k) (by omega)
          refine go tv82 6 rfl rfl trivial ?_
          refine q1 (qidx tv82 k rfl rfl rfl hc21 rfl rfl rfl rfl) rfl fun w22 => ?_
          refine go tv82 1 rfl rfl trivial ?_
          refine ef (alloc tv82 3 rfl rfl rfl rfl fun b23 => ?_)
          refine ef (storeA tv82 rfl rfl rfl rfl rfl rfl rfl rfl rfl rfl ?_)
          refine go tv82 11 rfl rfl trivial ?_
          refine ef (bsl 4 TakerS.pc [(⟨(IntKind.wrap .u8 (v : Int)), (gt r k).tag, (gt r k).queue⟩ : TakerS)] tv82 rfl rfl rfl rfl rfl (fun _ => rfl) rfl (by decide) (by decide) rfl fun u24 => ?_)
          refine ef (app tv82 [(⟨(IntKind.wrap .u8 (v : Int)), (gt r k).tag, (gt r k).queue⟩ : TakerS)] rfl rfl rfl rfl rfl rfl rfl rfl rfl (src_o rfl rfl) (by first | omega | (simp; omega)) rfl fun u25 => ?_)
          refine go tv82 8 rfl rfl ⟨(by omega), trivial⟩ ?_
          refine next ⟨(k + 1), (out2 ++ [(⟨(IntKind.wrap .u8 (v : Int)), (gt r k).tag, (gt r k).queue⟩ : TakerS)]), (u25)⟩ rfl rfl ⟨rfl, rfl, trivial⟩ ⟨rfl, trivial⟩ ?_ ?_
          · (try simp only []); omega
          exact ⟨by (try simp only []); omega, e20, ⟨by (try simp only [List.length_append, List.length_cons, List.length_nil]); omega, by omega⟩⟩
        have p26 := df h18
        have e27 := lstep (f := fun zz => session_Session_Takers_l1 v zz  out2) hp17_2 (dropN (by omega)) (session_Session_Takers_l1.eq_1 _ _)
        refine go tv82 5 rfl rfl trivial ?_
        refine next ⟨out2, (u_out2)⟩ rfl rfl ⟨rfl, trivial⟩ ⟨rfl, trivial⟩ (by decide) ?_
        exact ⟨e27, (by (try simp only []); omega)⟩
      have e28 := e_o.trans (condF h8)
      refine go tv82 2 rfl rfl trivial ?_
      refine next ⟨out, (u_out)⟩ rfl rfl ⟨rfl, trivial⟩ ⟨rfl, trivial⟩ (by decide) ?_
      exact ⟨e28, (by (try simp only []); omega)⟩
    rintro ⟨out1, u_out1⟩ ⟨hp29, hp29_3⟩
    have e30 := lt1_fin q_o hp29
    refine go tv82 5 rfl rfl ⟨(by omega), trivial⟩ ?_
    refine next ⟨f1, out1, (v + 1), (u_out1)⟩ rfl rfl ⟨rfl, rfl, trivial⟩ ⟨rfl, trivial⟩ ?_ ?_
    · (try simp only []); omega
    exact ⟨by (try simp only []); omega, e30, ⟨by omega, by omega⟩⟩
  have p31 := df h3
  have e32 := e_f1.trans (condF h3)
  refine go tv82 11 rfl rfl trivial ?_
  refine givec 1 rfl ?_
  refine go tv82 1 rfl rfl trivial ?_
  exact rt1 rfl rfl (ple_of (fun r : (List TakerS) => .sl TakerS.pc r) e32 (ple rfl))
theorem session_Session_End_ok (s : SessionR) (tick : Int) (hs : SOk s 10000000) : Fn Tryz.prog gb 22 [.agg (SessionR.pc s), .int .u64 tick] (.tup [.agg (SessionR.pc ((session_Session_End s tick).1)), .sl DeedR.pc ((session_Session_End s tick).2)]) := by
  refine fn_cw tv82 Tryz.func22 rfl Tryz.ntmps22 rfl cb22 rfl rfl fun w N H hG => ?_
  have tick_r : 0 ≤ tick ∧ tick ≤ 18446744073709551615 := w.2.1
  have e0 := session_Session_End.eq_1 s tick
  refine go tv82 2 rfl rfl trivial ?_
  refine ef (boxA 0 rfl rfl rfl fun b1 => ?_)
  refine ef (alloc tv82 1 rfl rfl rfl rfl fun b2 => ?_)
  refine go tv82 15 rfl rfl trivial ?_
  refine sw_own (t := 6) (k := 29) (e := 53) 2 DeedR.pc rfl rfl ?_
  refine loop (ι := Nat × (List DeedR) × Nat × SessionR × Value) [1, 2, 4, 5] [1] (fun ⟨f, out, v, x, u_out⟩ => [(6, .osl 2), (8, .int .i64 (v : Int))]) (fun ⟨f, out, v, x, u_out⟩ => [(2, .arr u_out 29 53 DeedR.pc out), (0, .box b1 75 [.str x.place, .str x.feed.rest, .int .i64 x.feed.err, .bool x.begun, .bool x.over, .int .i64 x.slots.e0.chan.credit, .sl TakerR.pc x.slots.e0.chan.takers, .sl LentR.pc x.slots.e0.chan.lent, .bool x.slots.e0.chan.sure, .bool x.slots.e0.chan.drafts, .int .u64 x.slots.e0.chan.puts, .sl DeedR.pc x.slots.e0.chan.held.l, .bool x.slots.e0.isopen, .int .i64 x.slots.e1.chan.credit, .sl TakerR.pc x.slots.e1.chan.takers, .sl LentR.pc x.slots.e1.chan.lent, .bool x.slots.e1.chan.sure, .bool x.slots.e1.chan.drafts, .int .u64 x.slots.e1.chan.puts, .sl DeedR.pc x.slots.e1.chan.held.l, .bool x.slots.e1.isopen, .int .i64 x.slots.e2.chan.credit, .sl TakerR.pc x.slots.e2.chan.takers, .sl LentR.pc x.slots.e2.chan.lent, .bool x.slots.e2.chan.sure, .bool x.slots.e2.chan.drafts, .int .u64 x.slots.e2.chan.puts, .sl DeedR.pc x.slots.e2.chan.held.l, .bool x.slots.e2.isopen, .int .i64 x.slots.e3.chan.credit, .sl TakerR.pc x.slots.e3.chan.takers, .sl LentR.pc x.slots.e3.chan.lent, .bool x.slots.e3.chan.sure, .bool x.slots.e3.chan.drafts, .int .u64 x.slots.e3.chan.puts, .sl DeedR.pc x.slots.e3.chan.held.l, .bool x.slots.e3.isopen, .int .i64 x.slots.e4.chan.credit, .sl TakerR.pc x.slots.e4.chan.takers, .sl LentR.pc x.slots.e4.chan.lent, .bool x.slots.e4.chan.sure, .bool x.slots.e4.chan.drafts, .int .u64 x.slots.e4.chan.puts, .sl DeedR.pc x.slots.e4.chan.held.l, .bool x.slots.e4.isopen])]) (fun ⟨f, out, v, x, u_out⟩ => 5 - v < f ∧ session_Session_End s tick = session_Session_End_l0 tick f out v x ∧ out.length ≤ 10000000 * v ∧ v ≤ 5 ∧ SOk x 10000000) (fun ⟨f, out, v, x, u_out⟩ => f) ⟨(5 - 0 + 1), [], 0, s, (.slice none 0 0)⟩ ⟨rfl, rfl, trivial⟩ ⟨rfl, rfl, trivial⟩ ?_ ?_
  · exact ⟨Nat.lt_succ_self _, e0, ⟨by simp, by omega, by assumption⟩⟩
  rintro ⟨f, out, v, x, u_out⟩ ⟨hp3_1, hp3_2, hp3_3⟩
  obtain ⟨hk1, hk2, hk3⟩ := hp3_3
  obtain ⟨f1, rfl⟩ : ∃ q, f = q + 1 := ⟨f - 1, by omega⟩
  have e_f1 := hp3_2.trans (session_Session_End_l0.eq_2 _ _ _ _ _)
  refine go tv82 6 rfl rfl trivial ?_
  refine cnd rfl (fun h4 => ?_) (fun h4 => ?_)
  · have p5 := dt h4
    have e6 := e_f1.trans (condT h4)
    refine go tv82 15 rfl rfl trivial ?_
    refine q1 (qaia v rfl rfl Tryz.underlying73 sz72 rfl (by omega)) rfl fun w7 => ?_
    refine go tv82 1 rfl rfl trivial ?_
    refine ef (oloadS1 (len := 5) (fun q => .bool ((A5.get x.slots q).isopen)) v 5 8 7 tv82 rfl rfl rfl rfl rfl rfl (by omega) (bw5 rfl rfl rfl rfl rfl) rfl fun w8 => ?_)
    refine go tv82 2 rfl rfl trivial ?_
    refine cnd rfl (fun h9 => ?_) (fun h9 => ?_)
    · have e10 := e6.trans (condT h9)
      refine go tv82 4 rfl rfl trivial ?_
      refine q1 (qaia v rfl rfl Tryz.underlying73 sz72 rfl (by omega)) rfl fun w11 => ?_
      refine go tv82 1 rfl rfl trivial ?_
      refine ef (oloadSA (sz := 7) (len := 5) (fun q => [.int .i64 ((A5.get x.slots q).chan.credit), .sl TakerR.pc ((A5.get x.slots q).chan.takers), .sl LentR.pc ((A5.get x.slots q).chan.lent), .bool ((A5.get x.slots q).chan.sure), .bool ((A5.get x.slots q).chan.drafts), .int .u64 ((A5.get x.slots q).chan.puts), .sl DeedR.pc ((A5.get x.slots q).chan.held.l)]) v 5 8 0 tv82 rfl rfl rfl rfl rfl rfl rfl (by omega) (bw5 rfl rfl rfl rfl rfl) (bw5 rfl rfl rfl rfl rfl) rfl fun w12 => ?_)
      refine go tv82 1 rfl rfl trivial ?_
      refine callv (session_back ((A5.get x.slots v).chan) tick) (fun r : (List DeedR) => .sl DeedR.pc r) (session_back_ok _ _ (by first | assumption | exact sok_at (by assumption) (by omega) (by omega) | exact qok_at (by assumption) (by omega) (by omega) | exact cok_le (by assumption) (by omega) | exact cok_zero _ | exact cok_new _)) rfl rfl fun r hr13 w14 => ?_
      have e15 := e10.trans (lt_eq hr13)
      have hA15 := sback_len ((A5.get x.slots v).chan) tick
      (try rw [← hr13] at hA15)
      (try have hA16 := cok_ln (c := ((A5.get x.slots v).chan)) (n := 10000000) (by first | assumption | exact sok_at (by assumption) (by omega) (by omega)))
      (try rw [← hr13] at hA16)
      refine ef (app tv82 r rfl rfl rfl rfl rfl rfl rfl rfl rfl (src_l rfl (fun _ => rfl)) (by first | omega | (simp; omega)) rfl fun u18 => ?_)
      refine go tv82 7 rfl rfl trivial ?_
      refine q1 (qaia v rfl rfl Tryz.underlying73 sz72 rfl (by omega)) rfl fun w19 => ?_
      refine ef (ostoreSA (sz := 8) (len := 5) (fun q => SessionR.pc (⟨x.place, x.feed, x.begun, x.over, (A5.set x.slots (⟨(⟨0, [], [], false, false, 0, (⟨[]⟩ : DraftR)⟩ : ChanR), false⟩ : SlotR) q)⟩ : SessionR)) v 5 8 0 tv82 rfl rfl rfl rfl rfl rfl rfl rfl rfl (by omega) (bw5 rfl rfl rfl rfl rfl) rfl (bw5 rfl rfl rfl rfl rfl) rfl ?_)
      refine go tv82 7 rfl rfl ⟨(by omega), trivial⟩ ?_
      refine next ⟨f1, (out ++ r), (v + 1), (⟨x.place, x.feed, x.begun, x.over, (A5.set x.slots (⟨(⟨0, [], [], false, false, 0, (⟨[]⟩ : DraftR)⟩ : ChanR), false⟩ : SlotR) v)⟩ : SessionR), (u18)⟩ rfl rfl ⟨rfl, rfl, trivial⟩ ⟨rfl, rfl, trivial⟩ ?_ ?_
      · (try simp only []); omega
      exact ⟨by (try simp only []); omega, e15, ⟨by first | omega | (simp only [List.length_append]; omega), by omega, sok_set (by assumption) (by omega) (cok_zero _)⟩⟩
    have e20 := e6.trans (condF h9)
    refine go tv82 6 rfl rfl trivial ?_
    refine q1 (qaia v rfl rfl Tryz.underlying73 sz72 rfl (by omega)) rfl fun w21 => ?_
    refine ef (ostoreSA (sz := 8) (len := 5) (fun q => SessionR.pc (⟨x.place, x.feed, x.begun, x.over, (A5.set x.slots (⟨(⟨0, [], [], false, false, 0, (⟨[]⟩ : DraftR)⟩ : ChanR), false⟩ : SlotR) q)⟩ : SessionR)) v 5 8 0 tv82 rfl rfl rfl rfl rfl rfl rfl rfl rfl (by omega) (bw5 rfl rfl rfl rfl rfl) rfl (bw5 rfl rfl rfl rfl rfl) rfl ?_)
    refine go tv82 7 rfl rfl ⟨(by omega), trivial⟩ ?_
    refine next ⟨f1, out, (v + 1), (⟨x.place, x.feed, x.begun, x.over, (A5.set x.slots (⟨(⟨0, [], [], false, false, 0, (⟨[]⟩ : DraftR)⟩ : ChanR), false⟩ : SlotR) v)⟩ : SessionR), (u_out)⟩ rfl rfl ⟨rfl, rfl, trivial⟩ ⟨rfl, rfl, trivial⟩ ?_ ?_
    · (try simp only []); omega
    exact ⟨by (try simp only []); omega, e20, ⟨by first | omega | (simp only [List.length_append]; omega), by omega, sok_set (by assumption) (by omega) (cok_zero _)⟩⟩
  have p22 := df h4
  have e23 := e_f1.trans (condF h4)
  refine go tv82 8 rfl rfl trivial ?_
  refine ef (store1 tv82 rfl rfl rfl rfl rfl rfl rfl rfl rfl ?_)
  refine go tv82 6 rfl rfl trivial ?_
  refine ef (storeA tv82 rfl rfl rfl rfl rfl rfl rfl rfl rfl rfl ?_)
  refine go tv82 3 rfl rfl trivial ?_
  refine givec 2 rfl ?_
  refine go tv82 1 rfl rfl trivial ?_
  exact rt2 rfl rfl (ple_of (fun r : SessionR × (List DeedR) => .tup [.agg (SessionR.pc r.1), .sl DeedR.pc r.2]) e23 (ple rfl))
end Go.SW.V
set_option linter.unusedVariables false
set_option maxRecDepth 100000
set_option maxHeartbeats 4000000
namespace Go.SW.V
open Go.SW Go.Proofs
theorem cb62 : Callable Tryz.prog 62 := callable_of Tryz.func62 (by kernel_rfl) (by kernel_rfl)
def tbv83 : Tb := [(3, ⟨.int .i64, 1, 8, [.int .i64 0]⟩),
  (4, ⟨.bool, 1, 1, [.bool false]⟩),
  (5, ⟨.int .u8, 1, 1, [.int .u8 0]⟩),
  (9, ⟨.str, 1, 16, [.str []]⟩),
  (27, ⟨.int .u64, 1, 8, [.int .u64 0]⟩),
  (40, ⟨.int .i64, 1, 8, [.int .i64 0]⟩),
  (47, ⟨.slc 199, 1, 24, [.sl Pair.pc []]⟩),
  (51, ⟨.agg [(0, 1), (1, 1), (2, 1), (3, 1), (4, 1), (5, 1), (6, 1)], 7, 96, [.int .u64 0, .str [], .str [], .sl Pair.pc [], .str [], .int .u64 0, .int .u8 0]⟩),
  (56, ⟨.slc 126, 1, 24, [.sl LentR.pc []]⟩),
  (57, ⟨.slc 184, 1, 24, [.sl DeedR.pc []]⟩),
  (59, ⟨.agg [(0, 1), (1, 1), (2, 1), (3, 1), (4, 1), (5, 1), (6, 1)], 7, 96, [.int .i64 0, .sl TakerR.pc [], .sl LentR.pc [], .bool false, .bool false, .int .u64 0, .sl DeedR.pc []]⟩),
  (64, ⟨.agg [(0, 1), (1, 1), (2, 1), (3, 1), (4, 1), (5, 1), (6, 1), (7, 1), (8, 1), (9, 1)], 10, 120, [.int .u8 0, .int .u8 0, .str [], .str [], .str [], .sl Pair.pc [], .str [], .int .u64 0, .int .u64 0, .bool false]⟩),
  (67, ⟨.agg [(0, 1), (1, 1), (2, 1), (3, 1), (4, 1), (5, 1), (6, 1), (7, 1), (8, 1), (9, 1)], 10, 120, [.int .u8 0, .int .u8 0, .str [], .str [], .str [], .sl Pair.pc [], .str [], .int .u64 0, .int .u64 0, .bool false]⟩),
  (91, ⟨.slc 101, 1, 24, [.sl Act28R.pc []]⟩),
  (97, ⟨.agg [(0, 1), (1, 1), (2, 1), (3, 1), (4, 1), (5, 5), (10, 35)], 45, 528, [.str [], .str [], .int .i64 0, .bool false, .bool false, .bool false, .bool false, .bool false, .bool false, .bool false, .int .i64 0, .sl TakerR.pc [], .sl LentR.pc [], .bool false, .bool false, .int .u64 0, .sl DeedR.pc [], .int .i64 0, .sl TakerR.pc [], .sl LentR.pc [], .bool false, .bool false, .int .u64 0, .sl DeedR.pc [], .int .i64 0, .sl TakerR.pc [], .sl LentR.pc [], .bool false, .bool false, .int .u64 0, .sl DeedR.pc [], .int .i64 0, .sl TakerR.pc [], .sl LentR.pc [], .bool false, .bool false, .int .u64 0, .sl DeedR.pc [], .int .i64 0, .sl TakerR.pc [], .sl LentR.pc [], .bool false, .bool false, .int .u64 0, .sl DeedR.pc []]⟩),
  (99, ⟨.agg [(0, 7), (7, 1), (8, 1)], 9, 104, [.int .u64 0, .str [], .str [], .sl Pair.pc [], .str [], .int .u64 0, .int .u8 0, .bool false, .bool false]⟩),
  (101, ⟨.agg [(0, 1), (1, 10), (11, 1), (12, 1), (13, 1), (14, 9), (23, 1)], 24, 272, [.int .u8 0, .int .u8 0, .int .u8 0, .str [], .str [], .str [], .sl Pair.pc [], .str [], .int .u64 0, .int .u64 0, .bool false, .str [], .int .u64 0, .int .u8 0, .int .u64 0, .str [], .str [], .sl Pair.pc [], .str [], .int .u64 0, .int .u8 0, .bool false, .bool false, .int .u8 0]⟩),
  (105, ⟨.slc 170, 1, 24, [.sl TakerS.pc []]⟩),
  (126, ⟨.agg [(0, 1), (1, 1)], 2, 24, [.int .u64 0, .str []]⟩),
  (167, ⟨.agg [(0, 1), (1, 1), (2, 1), (3, 1), (4, 1), (5, 1), (6, 7)], 13, 144, [.int .u8 0, .int .u8 0, .int .u64 0, .int .u64 0, .bool false, .str [], .int .u64 0, .str [], .str [], .sl Pair.pc [], .str [], .int .u64 0, .int .u8 0]⟩),
  (170, ⟨.agg [(0, 1), (1, 1), (2, 1)], 3, 32, [.int .u8 0, .int .u64 0, .str []]⟩),
  (171, ⟨.agg [(0, 7), (7, 1), (8, 1)], 9, 104, [.int .u64 0, .str [], .str [], .sl Pair.pc [], .str [], .int .u64 0, .int .u8 0, .bool false, .bool false]⟩),
  (173, ⟨.slc 167, 1, 24, [.sl Reply.pc []]⟩),
  (180, ⟨.agg [(0, 1), (1, 1), (2, 1)], 3, 40, [.str [], .int .u8 0, .str []]⟩),
  (181, ⟨.agg [(0, 1), (1, 1), (2, 1), (3, 1)], 4, 48, [.str [], .int .u64 0, .int .u64 0, .str []]⟩),
  (182, ⟨.agg [(0, 1), (1, 1), (2, 1), (3, 1), (4, 1), (5, 1)], 6, 88, [.str [], .str [], .bool false, .str [], .sl Pair.pc [], .bool false]⟩),
  (184, ⟨.agg [(0, 1), (1, 1), (2, 3), (5, 4), (9, 6), (15, 1), (16, 1), (17, 1), (18, 1), (19, 1), (20, 1), (21, 7), (28, 1)], 29, 344, [.int .u8 0, .int .u64 0, .str [], .int .u8 0, .str [], .str [], .int .u64 0, .int .u64 0, .str [], .str [], .str [], .bool false, .str [], .sl Pair.pc [], .bool false, .str [], .int .u64 0, .int .u8 0, .int .u8 0, .int .u8 0, .int .u64 0, .int .u64 0, .str [], .str [], .sl Pair.pc [], .str [], .int .u64 0, .int .u8 0, .str []]⟩),
  (258, ⟨.int .u32, 1, 4, [.int .u32 0]⟩),
  (269, ⟨.agg [(0, 1), (1, 1), (2, 1)], 3, 24, [.int .u8 0, .int .u8 0, .str []]⟩)]
theorem tv83 : tbB Tryz.prog tbv83 = true := by kernel_rfl
theorem l11_Awake_ok : Fn Tryz.prog gb 62 [] (.bool (l11_Awake)) := by
  refine fn_cw tv83 Tryz.func62 rfl Tryz.ntmps62 rfl cb62 rfl rfl fun w N H hG => ?_
  have e0 := l11_Awake.eq_1
  refine go tv83 7 rfl rfl trivial ?_
  refine call l11_awake rfl rfl fun w1 => ?_
  refine go tv83 4 rfl rfl trivial ?_
  exact rt1 rfl rfl (ple_of (fun r : Bool => .bool r) e0 (ple rfl))
end Go.SW.V
set_option linter.unusedVariables false
set_option maxRecDepth 100000
set_option maxHeartbeats 4000000
namespace Go.SW.V
open Go.SW Go.Proofs
end Go.SW.V
set_option linter.unusedVariables false
set_option maxRecDepth 100000
set_option maxHeartbeats 4000000
namespace Go.SW.V
open Go.SW Go.Proofs
theorem cb15 : Callable Tryz.prog 15 := callable_of Tryz.func15 (by kernel_rfl) (by kernel_rfl)
def tbv85 : Tb := [(3, ⟨.int .i64, 1, 8, [.int .i64 0]⟩),
  (4, ⟨.bool, 1, 1, [.bool false]⟩),
  (5, ⟨.int .u8, 1, 1, [.int .u8 0]⟩),
  (9, ⟨.str, 1, 16, [.str []]⟩),
  (27, ⟨.int .u64, 1, 8, [.int .u64 0]⟩),
  (28, ⟨.slc 53, 1, 24, [.sl DeedR.pc []]⟩),
  (64, ⟨.agg [(0, 1), (1, 1), (2, 1), (3, 1), (4, 1), (5, 1), (6, 1), (7, 1), (8, 1), (9, 1)], 10, 120, [.int .u8 0, .int .u8 0, .str [], .str [], .str [], .sl Pair.pc [], .str [], .int .u64 0, .int .u64 0, .bool false]⟩),
  (67, ⟨.agg [(0, 1), (1, 1), (2, 1), (3, 1), (4, 1), (5, 1), (6, 1), (7, 1), (8, 1), (9, 1)], 10, 120, [.int .u8 0, .int .u8 0, .str [], .str [], .str [], .sl Pair.pc [], .str [], .int .u64 0, .int .u64 0, .bool false]⟩),
  (75, ⟨.agg [(0, 1), (1, 2), (3, 1), (4, 1), (5, 40)], 45, 568, [.str [], .str [], .int .i64 0, .bool false, .bool false, .int .i64 0, .sl TakerR.pc [], .sl LentR.pc [], .bool false, .bool false, .int .u64 0, .sl DeedR.pc [], .bool false, .int .i64 0, .sl TakerR.pc [], .sl LentR.pc [], .bool false, .bool false, .int .u64 0, .sl DeedR.pc [], .bool false, .int .i64 0, .sl TakerR.pc [], .sl LentR.pc [], .bool false, .bool false, .int .u64 0, .sl DeedR.pc [], .bool false, .int .i64 0, .sl TakerR.pc [], .sl LentR.pc [], .bool false, .bool false, .int .u64 0, .sl DeedR.pc [], .bool false, .int .i64 0, .sl TakerR.pc [], .sl LentR.pc [], .bool false, .bool false, .int .u64 0, .sl DeedR.pc [], .bool false]⟩),
  (77, ⟨.slc 137, 1, 24, [.sl Reply.pc []]⟩),
  (82, ⟨.slc 153, 1, 24, [.sl TakerS.pc []]⟩),
  (97, ⟨.agg [(0, 1), (1, 1), (2, 1), (3, 1), (4, 1), (5, 5), (10, 35)], 45, 528, [.str [], .str [], .int .i64 0, .bool false, .bool false, .bool false, .bool false, .bool false, .bool false, .bool false, .int .i64 0, .sl TakerR.pc [], .sl LentR.pc [], .bool false, .bool false, .int .u64 0, .sl DeedR.pc [], .int .i64 0, .sl TakerR.pc [], .sl LentR.pc [], .bool false, .bool false, .int .u64 0, .sl DeedR.pc [], .int .i64 0, .sl TakerR.pc [], .sl LentR.pc [], .bool false, .bool false, .int .u64 0, .sl DeedR.pc [], .int .i64 0, .sl TakerR.pc [], .sl LentR.pc [], .bool false, .bool false, .int .u64 0, .sl DeedR.pc [], .int .i64 0, .sl TakerR.pc [], .sl LentR.pc [], .bool false, .bool false, .int .u64 0, .sl DeedR.pc []]⟩),
  (99, ⟨.agg [(0, 7), (7, 1), (8, 1)], 9, 104, [.int .u64 0, .str [], .str [], .sl Pair.pc [], .str [], .int .u64 0, .int .u8 0, .bool false, .bool false]⟩),
  (101, ⟨.agg [(0, 1), (1, 10), (11, 1), (12, 1), (13, 1), (14, 9), (23, 1)], 24, 272, [.int .u8 0, .int .u8 0, .int .u8 0, .str [], .str [], .str [], .sl Pair.pc [], .str [], .int .u64 0, .int .u64 0, .bool false, .str [], .int .u64 0, .int .u8 0, .int .u64 0, .str [], .str [], .sl Pair.pc [], .str [], .int .u64 0, .int .u8 0, .bool false, .bool false, .int .u8 0]⟩),
  (105, ⟨.slc 170, 1, 24, [.sl TakerS.pc []]⟩),
  (137, ⟨.agg [(0, 1), (1, 1), (2, 1), (3, 1), (4, 1), (5, 1), (6, 7)], 13, 144, [.int .u8 0, .int .u8 0, .int .u64 0, .int .u64 0, .bool false, .str [], .int .u64 0, .str [], .str [], .sl Pair.pc [], .str [], .int .u64 0, .int .u8 0]⟩),
  (153, ⟨.agg [(0, 1), (1, 1), (2, 1)], 3, 32, [.int .u8 0, .int .u64 0, .str []]⟩),
  (170, ⟨.agg [(0, 1), (1, 1), (2, 1)], 3, 32, [.int .u8 0, .int .u64 0, .str []]⟩),
  (221, ⟨.slc 67, 1, 24, [.sl Method.pc []]⟩),
  (230, ⟨.slc 232, 1, 24, [.sl ResultR.pc []]⟩),
  (232, ⟨.agg [(0, 9), (9, 1), (10, 1)], 11, 120, [.int .u64 0, .str [], .str [], .sl Pair.pc [], .str [], .int .u64 0, .int .u8 0, .bool false, .bool false, .int .i64 0, .int .i64 0]⟩),
  (266, ⟨.slc 269, 1, 24, [.sl Frame.pc []]⟩),
  (269, ⟨.agg [(0, 1), (1, 1), (2, 1)], 3, 24, [.int .u8 0, .int .u8 0, .str []]⟩)]
theorem tv85 : tbB Tryz.prog tbv85 = true := by kernel_rfl
theorem l28_awake_ok : Fn Tryz.prog gb 15 [] (.bool (l28_awake)) := by
  refine fn_cw tv85 Tryz.func15 rfl Tryz.ntmps15 rfl cb15 rfl rfl fun w N H hG => ?_
  have e0 := l28_awake.eq_1
  refine go tv85 7 rfl rfl trivial ?_
  refine callv (session_New [108, 111, 119]) (fun r : SessionR => .agg (SessionR.pc r)) (session_New_ok _) rfl rfl fun r hr1 w2 => ?_
  have e3 := e0.trans (lt_eq hr1)
  have hA3 := snew_ok [108, 111, 119] 0
  (try rw [← hr1] at hA3)
  have hA4 := snew_rest [108, 111, 119]
  (try rw [← hr1] at hA4)
  refine go tv85 1 rfl rfl trivial ?_
  refine callv (session_Session_Plan r (⟨0, 0, [], [], [], [], [], 1, 0, false⟩ : Method) 0) (fun r : SessionR × (List Reply) × (List DeedR) × Int => .tup [.agg (SessionR.pc r.1), .sl Reply.pc r.2.1, .sl DeedR.pc r.2.2.1, .int .i64 r.2.2.2]) (session_Session_Plan_ok _ (⟨0, 0, [], [], [], [], [], 1, 0, false⟩ : Method) _ (by first | assumption | exact sok_le (by assumption) (by omega)) (by first | omega | (simp; done))) rfl rfl fun r1 hr6 w7 => ?_
  have e8 := e3.trans (lt_eq hr6)
  (try have hA8 := (sPlan_Q (m := (⟨0, 0, [], [], [], [], [], 1, 0, false⟩ : Method)) (t := 0) (show SOk r _ by assumption) (by first | omega | simp)).1)
  (try rw [← hr6] at hA8)
  (try have hA9 := (sPlan_Q (m := (⟨0, 0, [], [], [], [], [], 1, 0, false⟩ : Method)) (t := 0) (show SOk r _ by assumption) (by first | omega | simp)).2.1.1)
  (try rw [← hr6] at hA9)
  (try have hA10 := (sPlan_Q (m := (⟨0, 0, [], [], [], [], [], 1, 0, false⟩ : Method)) (t := 0) (show SOk r _ by assumption) (by first | omega | simp)).2.1.2)
  (try rw [← hr6] at hA10)
  (try have hA11 := (sPlan_Q (m := (⟨0, 0, [], [], [], [], [], 1, 0, false⟩ : Method)) (t := 0) (show SOk r _ by assumption) (by first | omega | simp)).2.2.1)
  (try rw [← hr6] at hA11)
  (try have hA12 := (sPlan_Q (m := (⟨0, 0, [], [], [], [], [], 1, 0, false⟩ : Method)) (t := 0) (show SOk r _ by assumption) (by first | omega | simp)).2.2.2)
  (try rw [← hr6] at hA12)
  refine go tv85 5 rfl rfl trivial ?_
  refine ef (alloc tv85 0 rfl rfl rfl rfl fun b14 => ?_)
  refine ef (storeA tv85 rfl rfl rfl rfl rfl rfl rfl rfl rfl rfl ?_)
  refine go tv85 9 rfl rfl trivial ?_
  refine callv (session_Session_Plan r1.1 (⟨0, 0, [], [], [], [], [], 1, 0, false⟩ : Method) 0) (fun r : SessionR × (List Reply) × (List DeedR) × Int => .tup [.agg (SessionR.pc r.1), .sl Reply.pc r.2.1, .sl DeedR.pc r.2.2.1, .int .i64 r.2.2.2]) (session_Session_Plan_ok _ (⟨0, 0, [], [], [], [], [], 1, 0, false⟩ : Method) _ (by first | assumption | exact sok_le (by assumption) (by omega)) (by first | omega | (simp; done))) rfl rfl fun r2 hr15 w16 => ?_
  have e17 := e8.trans (lt_eq hr15)
  (try have hA17 := (sPlan_Q (m := (⟨0, 0, [], [], [], [], [], 1, 0, false⟩ : Method)) (t := 0) (show SOk r1.1 _ by assumption) (by first | omega | simp)).1)
  (try rw [← hr15] at hA17)
  (try have hA18 := (sPlan_Q (m := (⟨0, 0, [], [], [], [], [], 1, 0, false⟩ : Method)) (t := 0) (show SOk r1.1 _ by assumption) (by first | omega | simp)).2.1.1)
  (try rw [← hr15] at hA18)
  (try have hA19 := (sPlan_Q (m := (⟨0, 0, [], [], [], [], [], 1, 0, false⟩ : Method)) (t := 0) (show SOk r1.1 _ by assumption) (by first | omega | simp)).2.1.2)
  (try rw [← hr15] at hA19)
  (try have hA20 := (sPlan_Q (m := (⟨0, 0, [], [], [], [], [], 1, 0, false⟩ : Method)) (t := 0) (show SOk r1.1 _ by assumption) (by first | omega | simp)).2.2.1)
  (try rw [← hr15] at hA20)
  (try have hA21 := (sPlan_Q (m := (⟨0, 0, [], [], [], [], [], 1, 0, false⟩ : Method)) (t := 0) (show SOk r1.1 _ by assumption) (by first | omega | simp)).2.2.2)
  (try rw [← hr15] at hA21)
  refine go tv85 5 rfl rfl trivial ?_
  refine ef (alloc tv85 1 rfl rfl rfl rfl fun b23 => ?_)
  refine ef (storeA tv85 rfl rfl rfl rfl rfl rfl rfl rfl rfl rfl ?_)
  refine go tv85 7 rfl rfl trivial ?_
  refine call l08_Awake_ok rfl rfl fun w24 => ?_
  refine go tv85 1 rfl rfl trivial ?_
  refine callg rfl (fun hc => l11_Awake_ok) rfl trivial rfl rfl fun _ => ?_
  refine go tv85 2 rfl rfl ⟨rfl, rfl, trivial⟩ ?_
  refine callg rfl (fun hc => l12_Awake_ok) rfl trivial rfl rfl fun _ => ?_
  refine go tv85 2 rfl rfl ⟨rfl, rfl, trivial⟩ ?_
  refine callg rfl (fun hc => l27_Awake) rfl trivial rfl rfl fun _ => ?_
  refine go tv85 12 rfl rfl ⟨rfl, rfl, (fun hc => hc), rfl, rfl, (fun hc => hc), (fun hc => hc), rfl, rfl, trivial⟩ ?_
  refine q1g [45] rfl (fun hc => qidx tv85 0 rfl rfl rfl (getG (by first | omega | (simp only [gOf, Bool.and_eq_true, Bool.or_eq_true, Bool.not_eq_true', decide_eq_true_eq, decide_eq_false_iff_not, Bool.not_eq_false', Bool.and_true, Bool.true_and, cond_true, cond_false] at *; omega))) rfl rfl rfl rfl) ⟨(fun hc => hc), trivial⟩ rfl rfl rfl fun _ => ?_
  refine go tv85 12 rfl rfl ⟨(fun hc => hc), (fun hc => hc), (fun hc => hc), rfl, rfl, (fun hc => hc), rfl, rfl, trivial⟩ ?_
  exact rt1 rfl rfl (ple_of (fun r : Bool => .bool r) e17 (ple rfl))
end Go.SW.V
set_option linter.unusedVariables false
set_option maxRecDepth 100000
set_option maxHeartbeats 4000000
namespace Go.SW.V
open Go.SW Go.Proofs
end Go.SW.V
set_option linter.unusedVariables false
set_option maxRecDepth 100000
set_option maxHeartbeats 4000000
namespace Go.SW.V
open Go.SW Go.Proofs
end Go.SW.V
set_option linter.unusedVariables false
set_option maxRecDepth 100000
set_option maxHeartbeats 4000000
namespace Go.SW.V
open Go.SW Go.Proofs
theorem cb4 : Callable Tryz.prog 4 := callable_of Tryz.func4 (by kernel_rfl) (by kernel_rfl)
def tbv88 : Tb := [(3, ⟨.int .i64, 1, 8, [.int .i64 0]⟩),
  (4, ⟨.bool, 1, 1, [.bool false]⟩),
  (5, ⟨.int .u8, 1, 1, [.int .u8 0]⟩),
  (9, ⟨.str, 1, 16, [.str []]⟩),
  (27, ⟨.int .u64, 1, 8, [.int .u64 0]⟩),
  (28, ⟨.slc 53, 1, 24, [.sl DeedR.pc []]⟩),
  (64, ⟨.agg [(0, 1), (1, 1), (2, 1), (3, 1), (4, 1), (5, 1), (6, 1), (7, 1), (8, 1), (9, 1)], 10, 120, [.int .u8 0, .int .u8 0, .str [], .str [], .str [], .sl Pair.pc [], .str [], .int .u64 0, .int .u64 0, .bool false]⟩),
  (75, ⟨.agg [(0, 1), (1, 2), (3, 1), (4, 1), (5, 40)], 45, 568, [.str [], .str [], .int .i64 0, .bool false, .bool false, .int .i64 0, .sl TakerR.pc [], .sl LentR.pc [], .bool false, .bool false, .int .u64 0, .sl DeedR.pc [], .bool false, .int .i64 0, .sl TakerR.pc [], .sl LentR.pc [], .bool false, .bool false, .int .u64 0, .sl DeedR.pc [], .bool false, .int .i64 0, .sl TakerR.pc [], .sl LentR.pc [], .bool false, .bool false, .int .u64 0, .sl DeedR.pc [], .bool false, .int .i64 0, .sl TakerR.pc [], .sl LentR.pc [], .bool false, .bool false, .int .u64 0, .sl DeedR.pc [], .bool false, .int .i64 0, .sl TakerR.pc [], .sl LentR.pc [], .bool false, .bool false, .int .u64 0, .sl DeedR.pc [], .bool false]⟩),
  (77, ⟨.slc 137, 1, 24, [.sl Reply.pc []]⟩),
  (82, ⟨.slc 153, 1, 24, [.sl TakerS.pc []]⟩),
  (85, ⟨.int .u16, 1, 2, [.int .u16 0]⟩),
  (86, ⟨.slc 64, 1, 24, [.sl Method.pc []]⟩),
  (91, ⟨.slc 101, 1, 24, [.sl Act28R.pc []]⟩),
  (97, ⟨.agg [(0, 1), (1, 1), (2, 1), (3, 1), (4, 1), (5, 5), (10, 35)], 45, 528, [.str [], .str [], .int .i64 0, .bool false, .bool false, .bool false, .bool false, .bool false, .bool false, .bool false, .int .i64 0, .sl TakerR.pc [], .sl LentR.pc [], .bool false, .bool false, .int .u64 0, .sl DeedR.pc [], .int .i64 0, .sl TakerR.pc [], .sl LentR.pc [], .bool false, .bool false, .int .u64 0, .sl DeedR.pc [], .int .i64 0, .sl TakerR.pc [], .sl LentR.pc [], .bool false, .bool false, .int .u64 0, .sl DeedR.pc [], .int .i64 0, .sl TakerR.pc [], .sl LentR.pc [], .bool false, .bool false, .int .u64 0, .sl DeedR.pc [], .int .i64 0, .sl TakerR.pc [], .sl LentR.pc [], .bool false, .bool false, .int .u64 0, .sl DeedR.pc []]⟩),
  (101, ⟨.agg [(0, 1), (1, 10), (11, 1), (12, 1), (13, 1), (14, 9), (23, 1)], 24, 272, [.int .u8 0, .int .u8 0, .int .u8 0, .str [], .str [], .str [], .sl Pair.pc [], .str [], .int .u64 0, .int .u64 0, .bool false, .str [], .int .u64 0, .int .u8 0, .int .u64 0, .str [], .str [], .sl Pair.pc [], .str [], .int .u64 0, .int .u8 0, .bool false, .bool false, .int .u8 0]⟩)]
theorem tv88 : tbB Tryz.prog tbv88 = true := by kernel_rfl
theorem l28_SessionGates_ok (m : Method) (tick : Int) : Fn Tryz.prog gb 4 [.agg (Method.pc m), .int .u64 tick] (.bool (l28_SessionGates m tick)) := by
  refine fn_cw tv88 Tryz.func4 rfl Tryz.ntmps4 rfl cb4 rfl rfl fun w N H hG => ?_
  have m_channel_r : 0 ≤ m.channel ∧ m.channel ≤ 255 := w.1.1
  have m_kind_r : 0 ≤ m.kind ∧ m.kind ≤ 255 := w.1.2.1
  have m_name_l : m.name.length ≤ 9223372036854775807 := w.1.2.2.1
  have m_other_l : m.other.length ≤ 9223372036854775807 := w.1.2.2.2.1
  have m_key_l : m.key.length ≤ 9223372036854775807 := w.1.2.2.2.2.1
  have m_head_l : m.head.length ≤ 140737488355328 := w.1.2.2.2.2.2.1.1
  have m_body_l : m.body.length ≤ 9223372036854775807 := w.1.2.2.2.2.2.2.1
  have m_n_r : 0 ≤ m.n ∧ m.n ≤ 18446744073709551615 := w.1.2.2.2.2.2.2.2.1
  have m_m_r : 0 ≤ m.m ∧ m.m ≤ 18446744073709551615 := w.1.2.2.2.2.2.2.2.2.1
  have tick_r : 0 ≤ tick ∧ tick ≤ 18446744073709551615 := w.2.1
  have e0 := l28_SessionGates.eq_1 m tick
  refine go tv88 2 rfl rfl trivial ?_
  refine ef (boxA 0 rfl rfl rfl fun b1 => ?_)
  refine go tv88 6 rfl rfl trivial ?_
  refine call l28_awake_ok rfl rfl fun w2 => ?_
  refine go tv88 3 rfl rfl trivial ?_
  refine cnd rfl (fun h3 => ?_) (fun h3 => ?_)
  · have h4 := not_t h3
    have e5 := e0.trans (condT h3)
    refine go tv88 7 rfl rfl trivial ?_
    exact rt1 rfl rfl (ple_of (fun r : Bool => .bool r) e5 (ple rfl))
  have h6 := not_f h3
  have e7 := e0.trans (condF h3)
  refine go tv88 6 rfl rfl trivial ?_
  refine call (l11_Light_ok _) rfl rfl fun w8 => ?_
  refine go tv88 3 rfl rfl trivial ?_
  refine callg rfl (fun hc => (l11_To_ok _ (by first | omega | (have hlg := lg_head hc; omega)))) rfl ⟨(fun hc => hc), trivial⟩ rfl rfl fun _ => ?_
  refine callg rfl (fun hc => (r11_Check_ok _)) rfl ⟨(fun hc => hc), trivial⟩ rfl rfl fun _ => ?_
  refine go tv88 4 rfl rfl ⟨(fun hc => hc), rfl, rfl, trivial⟩ ?_
  refine cnd rfl (fun h9 => ?_) (fun h9 => ?_)
  · have e10 := e7.trans (condT h9)
    refine go tv88 7 rfl rfl trivial ?_
    exact rt1 rfl rfl (ple_of (fun r : Bool => .bool r) e10 (ple rfl))
  have h11 := orl h9
  have h12 := not_f h11
  have hb12 := l11_sm h12
  (try obtain ⟨hb12a, hb12b⟩ := hb12)
  have h14 := orr h9
  have h15 := not_f h14
  have p16 := dt h15
  have e17 := e7.trans (condF h9)
  refine go tv88 4 rfl rfl trivial ?_
  refine callv (session_New [108, 111, 119]) (fun r : SessionR => .agg (SessionR.pc r)) (session_New_ok _) rfl rfl fun r hr18 w19 => ?_
  have e20 := e17.trans (lt_eq hr18)
  have hA20 := snew_ok [108, 111, 119] 0
  (try rw [← hr18] at hA20)
  have hA21 := snew_rest [108, 111, 119]
  (try rw [← hr18] at hA21)
  refine ef (alloc tv88 1 rfl rfl rfl rfl fun b23 => ?_)
  refine ef (storeA tv88 rfl rfl rfl rfl rfl rfl rfl rfl rfl rfl ?_)
  refine go tv88 25 rfl rfl ⟨(fun hc => hc), (fun hc => hc), rfl, rfl, (fun hc => hc), (fun hc => hc), rfl, rfl, trivial⟩ ?_
  refine callv (session_Session_Plan r m tick) (fun r : SessionR × (List Reply) × (List DeedR) × Int => .tup [.agg (SessionR.pc r.1), .sl Reply.pc r.2.1, .sl DeedR.pc r.2.2.1, .int .i64 r.2.2.2]) (session_Session_Plan_ok _ _ _ (by first | assumption | exact sok_le (by assumption) (by omega)) (by first | omega | (have := l11_sm (by assumption); omega) | simp)) rfl rfl fun r1 hr24 w25 => ?_
  have e26 := e20.trans (lt_eq hr24)
  (try have hA26 := (sPlan_Q (m := m) (t := tick) (show SOk r _ by assumption) (by first | omega | simp)).1)
  (try rw [← hr24] at hA26)
  (try have hA27 := (sPlan_Q (m := m) (t := tick) (show SOk r _ by assumption) (by first | omega | simp)).2.1.1)
  (try rw [← hr24] at hA27)
  (try have hA28 := (sPlan_Q (m := m) (t := tick) (show SOk r _ by assumption) (by first | omega | simp)).2.1.2)
  (try rw [← hr24] at hA28)
  (try have hA29 := (sPlan_Q (m := m) (t := tick) (show SOk r _ by assumption) (by first | omega | simp)).2.2.1)
  (try rw [← hr24] at hA29)
  (try have hA30 := (sPlan_Q (m := m) (t := tick) (show SOk r _ by assumption) (by first | omega | simp)).2.2.2)
  (try rw [← hr24] at hA30)
  refine go tv88 5 rfl rfl trivial ?_
  refine ef (alloc tv88 2 rfl rfl rfl rfl fun b32 => ?_)
  refine ef (storeA tv88 rfl rfl rfl rfl rfl rfl rfl rfl rfl rfl ?_)
  refine go tv88 14 rfl rfl trivial ?_
  refine callg rfl (fun hc => (session_Session_Begun_ok _)) rfl ⟨(fun hc => hc), trivial⟩ rfl rfl fun _ => ?_
  refine go tv88 17 rfl rfl ⟨(fun hc => hc), (fun hc => hc), rfl, rfl, (fun hc => hc), (fun hc => hc), (fun hc => hc), (fun hc => hc), (fun hc => hc), (fun hc => hc), (fun hc => (by omega)), (fun hc => hc), (fun hc => hc), (fun hc => (by rw [hc]; rfl)), (fun hc => rfl), rfl, rfl, trivial⟩ ?_
  refine cnd rfl (fun h33 => ?_) (fun h33 => ?_)
  · have e34 := e26.trans (condT h33)
    refine go tv88 7 rfl rfl trivial ?_
    exact rt1 rfl rfl (ple_of (fun r : Bool => .bool r) e34 (ple rfl))
  have h35 := orl h33
  have h36 := orl h35
  have h37 := not_f h36
  have p38 := beqT h37
  have h39 := orr h35
  have h40 := not_f h39
  have p41 := beqT h40
  have h42 := orr h33
  have e43 := e26.trans (condF h33)
  refine go tv88 7 rfl rfl trivial ?_
  refine callv (session_Session_Plan r (⟨0, 0, [], [], [], [], [], 1, 0, false⟩ : Method) tick) (fun r : SessionR × (List Reply) × (List DeedR) × Int => .tup [.agg (SessionR.pc r.1), .sl Reply.pc r.2.1, .sl DeedR.pc r.2.2.1, .int .i64 r.2.2.2]) (session_Session_Plan_ok _ (⟨0, 0, [], [], [], [], [], 1, 0, false⟩ : Method) _ (by first | assumption | exact sok_le (by assumption) (by omega)) (by first | omega | (have := l11_sm (by assumption); omega) | simp)) rfl rfl fun r2 hr44 w45 => ?_
  have e46 := e43.trans (lt_eq hr44)
  (try have hA46 := (sPlan_Q (m := (⟨0, 0, [], [], [], [], [], 1, 0, false⟩ : Method)) (t := tick) (show SOk r _ by assumption) (by first | omega | simp)).1)
  (try rw [← hr44] at hA46)
  (try have hA47 := (sPlan_Q (m := (⟨0, 0, [], [], [], [], [], 1, 0, false⟩ : Method)) (t := tick) (show SOk r _ by assumption) (by first | omega | simp)).2.1.1)
  (try rw [← hr44] at hA47)
  (try have hA48 := (sPlan_Q (m := (⟨0, 0, [], [], [], [], [], 1, 0, false⟩ : Method)) (t := tick) (show SOk r _ by assumption) (by first | omega | simp)).2.1.2)
  (try rw [← hr44] at hA48)
  (try have hA49 := (sPlan_Q (m := (⟨0, 0, [], [], [], [], [], 1, 0, false⟩ : Method)) (t := tick) (show SOk r _ by assumption) (by first | omega | simp)).2.2.1)
  (try rw [← hr44] at hA49)
  (try have hA50 := (sPlan_Q (m := (⟨0, 0, [], [], [], [], [], 1, 0, false⟩ : Method)) (t := tick) (show SOk r _ by assumption) (by first | omega | simp)).2.2.2)
  (try rw [← hr44] at hA50)
  refine go tv88 5 rfl rfl trivial ?_
  refine ef (alloc tv88 3 rfl rfl rfl rfl fun b52 => ?_)
  refine ef (storeA tv88 rfl rfl rfl rfl rfl rfl rfl rfl rfl rfl ?_)
  refine go tv88 10 rfl rfl trivial ?_
  refine callv (session_Session_Plan r2.1 m tick) (fun r : SessionR × (List Reply) × (List DeedR) × Int => .tup [.agg (SessionR.pc r.1), .sl Reply.pc r.2.1, .sl DeedR.pc r.2.2.1, .int .i64 r.2.2.2]) (session_Session_Plan_ok _ _ _ (by first | assumption | exact sok_le (by assumption) (by omega)) (by first | omega | (have := l11_sm (by assumption); omega) | simp)) rfl rfl fun r3 hr53 w54 => ?_
  have e55 := e46.trans (lt_eq hr53)
  (try have hA55 := (sPlan_Q (m := m) (t := tick) (show SOk r2.1 _ by assumption) (by first | omega | simp)).1)
  (try rw [← hr53] at hA55)
  (try have hA56 := (sPlan_Q (m := m) (t := tick) (show SOk r2.1 _ by assumption) (by first | omega | simp)).2.1.1)
  (try rw [← hr53] at hA56)
  (try have hA57 := (sPlan_Q (m := m) (t := tick) (show SOk r2.1 _ by assumption) (by first | omega | simp)).2.1.2)
  (try rw [← hr53] at hA57)
  (try have hA58 := (sPlan_Q (m := m) (t := tick) (show SOk r2.1 _ by assumption) (by first | omega | simp)).2.2.1)
  (try rw [← hr53] at hA58)
  (try have hA59 := (sPlan_Q (m := m) (t := tick) (show SOk r2.1 _ by assumption) (by first | omega | simp)).2.2.2)
  (try rw [← hr53] at hA59)
  refine go tv88 5 rfl rfl trivial ?_
  refine ef (alloc tv88 4 rfl rfl rfl rfl fun b61 => ?_)
  refine ef (storeA tv88 rfl rfl rfl rfl rfl rfl rfl rfl rfl rfl ?_)
  refine go tv88 48 rfl rfl ⟨(fun hc => hc), (fun hc => hc), rfl, rfl, (fun hc => hc), (fun hc => hc), rfl, rfl, (fun hc => hc), (fun hc => hc), (fun hc => hc), rfl, rfl, (fun hc => hc), (fun hc => hc), (fun hc => hc), (fun hc => hc), (fun hc => hc), (fun hc => hc), (fun hc => (by omega)), (fun hc => hc), (fun hc => hc), (fun hc => (by rw [hc]; rfl)), (fun hc => rfl), rfl, rfl, trivial⟩ ?_
  refine callg rfl (fun hc => (session_Session_Begun_ok _)) rfl ⟨(fun hc => hc), trivial⟩ rfl rfl fun _ => ?_
  refine go tv88 4 rfl rfl ⟨(fun hc => hc), rfl, rfl, trivial⟩ ?_
  refine cnd rfl (fun h62 => ?_) (fun h62 => ?_)
  · have e63 := e55.trans (condT h62)
    refine go tv88 7 rfl rfl trivial ?_
    exact rt1 rfl rfl (ple_of (fun r : Bool => .bool r) e63 (ple rfl))
  have h64 := orl h62
  have h65 := orl h64
  have h66 := orl h65
  have h67 := not_f h66
  have p68 := dt h67
  have h69 := orr h65
  have h70 := not_f h69
  have p71 := beqT h70
  have h72 := orr h64
  have h73 := orr h62
  have h74 := not_f h73
  have e75 := e55.trans (condF h62)
  refine go tv88 6 rfl rfl trivial ?_
  refine callv (session_Session_End r3.1 tick) (fun r : SessionR × (List DeedR) => .tup [.agg (SessionR.pc r.1), .sl DeedR.pc r.2]) (session_Session_End_ok _ _ (by first | assumption | exact sok_le (by assumption) (by omega))) rfl rfl fun r4 hr76 w77 => ?_
  have e78 := e75.trans (lt_eq hr76)
  (try have hA78 := send_len tick (show SOk r3.1 _ by assumption))
  (try rw [← hr76] at hA78)
  (try have hA79 := (send_ok r3.1 tick 0).1)
  (try rw [← hr76] at hA79)
  refine go tv88 3 rfl rfl trivial ?_
  refine ef (alloc tv88 5 rfl rfl rfl rfl fun b81 => ?_)
  refine ef (storeA tv88 rfl rfl rfl rfl rfl rfl rfl rfl rfl rfl ?_)
  refine go tv88 8 rfl rfl trivial ?_
  refine callv (session_Session_Plan r4.1 m tick) (fun r : SessionR × (List Reply) × (List DeedR) × Int => .tup [.agg (SessionR.pc r.1), .sl Reply.pc r.2.1, .sl DeedR.pc r.2.2.1, .int .i64 r.2.2.2]) (session_Session_Plan_ok _ _ _ (by first | assumption | exact sok_le (by assumption) (by omega)) (by first | omega | (have := l11_sm (by assumption); omega) | simp)) rfl rfl fun r5 hr82 w83 => ?_
  have e84 := e78.trans (lt_eq hr82)
  (try have hA84 := (sPlan_Q (m := m) (t := tick) (show SOk r4.1 _ by assumption) (by first | omega | simp)).1)
  (try rw [← hr82] at hA84)
  (try have hA85 := (sPlan_Q (m := m) (t := tick) (show SOk r4.1 _ by assumption) (by first | omega | simp)).2.1.1)
  (try rw [← hr82] at hA85)
  (try have hA86 := (sPlan_Q (m := m) (t := tick) (show SOk r4.1 _ by assumption) (by first | omega | simp)).2.1.2)
  (try rw [← hr82] at hA86)
  (try have hA87 := (sPlan_Q (m := m) (t := tick) (show SOk r4.1 _ by assumption) (by first | omega | simp)).2.2.1)
  (try rw [← hr82] at hA87)
  (try have hA88 := (sPlan_Q (m := m) (t := tick) (show SOk r4.1 _ by assumption) (by first | omega | simp)).2.2.2)
  (try rw [← hr82] at hA88)
  refine go tv88 5 rfl rfl trivial ?_
  refine ef (alloc tv88 6 rfl rfl rfl rfl fun b90 => ?_)
  refine ef (storeA tv88 rfl rfl rfl rfl rfl rfl rfl rfl rfl rfl ?_)
  refine go tv88 8 rfl rfl trivial ?_
  refine call (session_Session_Over_ok _) rfl rfl fun w91 => ?_
  refine go tv88 6 rfl rfl ⟨(fun hc => hc), rfl, rfl, trivial⟩ ?_
  refine callg rfl (fun hc => (session_Session_Takers_ok _ (by first | assumption | exact sok_le (by assumption) (by omega)))) rfl ⟨(fun hc => hc), trivial⟩ rfl rfl fun _ => ?_
  refine go tv88 7 rfl rfl ⟨(fun hc => hc), (fun hc => hc), rfl, rfl, trivial⟩ ?_
  exact rt1 rfl rfl (ple_of (fun r : Bool => .bool r) e84 (ple rfl))
end Go.SW.V
namespace Go.SW
open Go.ChangeShapes Go.WideShapes Go.ChangeAt Go.RowKit
variable {P : Program}
theorem cells_of_strs {Ht : Type} {enc : TypeId × Value → Ht} {w : World} {base : Nat} {sp : Nat → Bool} {held : Bool} {fuel : Nat} {t e : TypeId} {n : Nat} {cs : List Value} {zs : List Bs} {p : List MemPlace}
    (ht : P.underlying t = some (.array n e)) (he : P.underlying e = some .string) (hce : P.cellsOf e = 1) (hct : P.cellsOf t = n)
    (h : DataW.trod enc P w base sp held fuel t cs = some (.agg (zs.map fun z => .lit (.string z)), p)) : cs = zs.map str := by
  cases fuel with
  | zero => simp [DataW.trod] at h
  | succ fuel =>
    simp only [DataW.trod, ht, hce, hct, Nat.mul_one] at h
    split at h
    · rename_i hl
      obtain ⟨xs, hm, hx⟩ := Option.map_eq_some_iff.1 h
      have hxs : xs.map (·.1) = zs.map fun z => (DataW.lit (.string z) : DataW Ht) := by
        have := congrArg Prod.fst hx
        simpa using this
      have hxl : xs.length = n := by simpa using Lib.mapM_length hm
      have hzl : zs.length = n := by
        have := congrArg List.length hxs
        simp at this
        omega
      apply List.ext_getElem?
      intro i
      by_cases hi : i < n
      · obtain ⟨b, hb, hf⟩ := Lib.mapM_at hm i i (by simp [hi])
        obtain ⟨z, hc, rfl, _⟩ := DataW.trod_string he hf
        have h1 : cs[i]? = some (.string z) := by
          have := congrArg (·[0]?) hc
          simpa [List.getElem?_take, List.getElem?_drop] using this
        have h2 : (xs.map (·.1))[i]? = some (DataW.lit (.string z.data.toList) : DataW Ht) := by simp [hb]
        rw [hxs] at h2
        simp only [List.getElem?_map, Option.map_eq_some_iff, DataW.lit.injEq, Lit.string.injEq] at h2
        obtain ⟨z', hz', rfl⟩ := h2
        rw [h1, List.getElem?_map, hz', str_of]
        rfl
      · rw [List.getElem?_eq_none (by omega), List.getElem?_eq_none (by simp; omega)]
    · cases h
theorem gstrs_of {w : World} {g n : Nat} {name : String} {zs : List Bs} {rest : List (String × DataW Unit)} {t e : TypeId} (hg : P.globalNamed name = some g) (hty : (P.globals[g]?).map (·.type) = some t) (ht : P.underlying t = some (.array n e)) (he : P.underlying e = some .string) (hce : P.cellsOf e = 1) (hct : P.cellsOf t = n)
    (h : laidMet P ((name, .agg (zs.map fun z => .lit (.string z))) :: rest) w) : GStrs (hp w) g zs := by
  obtain ⟨ps, ⟨g', t', cs, fuel, p, q, hg', ht', hvar, hd, _, _⟩, _⟩ := h
  obtain rfl := Option.some.inj (hg.symm.trans hg')
  obtain rfl := Option.some.inj (hty.symm.trans ht')
  have hc := cells_of_strs ht he hce hct hd
  obtain rfl : cs = (zs.map str).toArray := by rw [← hc]
  unfold World.var? at hvar
  rw [hg] at hvar
  simp only [Option.bind_some] at hvar
  split at hvar
  · rename_i cs T fr hh
    cases hvar
    exact ⟨T, fr, hh⟩
  · cases hvar
end Go.SW
set_option maxRecDepth 100000
namespace Go.SW.V
open Go.SW
theorem awake28 : l28_awake = true := by decide +kernel
end Go.SW.V
namespace Go.SW.V
open Go.SW
/-- What is planned, where it may come. -/
theorem plan_e (s : SessionR) (m : Method) (t : Int) : (session_Session_Plan s m t).2.2.2 = session_Session_may s m := by
  simp only [session_Session_Plan, lt]
  by_cases h : session_Session_may s m = 0
  · rw [h]
    by_cases k0 : m.kind = 0 <;> by_cases k1 : m.kind = 1 <;> simp [k0, k1]
  · simp [h]
theorem plan_no (s : SessionR) (m : Method) (t : Int) (h : session_Session_may s m ≠ 0) : session_Session_Plan s m t = (s, [], [], session_Session_may s m) := by
  simp [session_Session_Plan, lt, h]
theorem l28_gates (m : Method) (t : Int) (hw : PV.wfs (Method.pc m)) : l28_SessionGates m t = true := by
  have hr : 0 ≤ m.channel ∧ 0 ≤ m.kind ∧ 0 ≤ m.n := by
    simp only [Method.pc, PV.wfs, PV.wf] at hw
    omega
  simp only [l28_SessionGates, awake28, Bool.not_true, cond_false, lt]
  refine condP (P := fun b => b = true) (fun _ => rfl) fun h => ?_
  obtain ⟨c0, k0, n0⟩ := hr
  have hh : session_Session_may (session_New [108, 111, 119]) m = if m.kind = 0 ∧ m.channel = 0 then (if m.n = 1 then 0 else 7) else 13 := by
    by_cases a : m.kind = 0 <;> by_cases b : m.channel = 0 <;> by_cases d : m.n = 1 <;> simp [session_Session_may, session_New, a, b, d]
  have h2 : session_Session_Plan (session_New [108, 111, 119]) ⟨0, 0, [], [], [], [], [], 1, 0, false⟩ t = (⟨[108, 111, 119], ⟨[], 0⟩, true, false, ⟨zslot, zslot, zslot, zslot, zslot⟩⟩, [⟨0, 0, 0, 0, false, [108, 111, 119], ⟨0, [], [], [], [], 0, 0⟩⟩], [], 0) := rfl
  rw [h2]
  generalize hb : (⟨[108, 111, 119], ⟨[], 0⟩, true, false, ⟨zslot, zslot, zslot, zslot, zslot⟩⟩ : SessionR) = b
  have hop : ∀ k, (A5.get b.slots k).isopen = false := by
    intro k; rw [← hb]
    match k with
    | 0 => rfl
    | 1 => rfl
    | 2 => rfl
    | 3 => rfl
    | _ + 4 => rfl
  have hbb : b.begun = true := by rw [← hb]
  have hbo : b.over = false := by rw [← hb]
  have hm2 : session_Session_may b m = if m.kind = 1 ∧ 0 < m.channel ∧ m.channel ≤ 4 then 0 else session_Session_may b m := by
    by_cases q : m.kind = 1 ∧ 0 < m.channel ∧ m.channel ≤ 4
    · rw [if_pos q]
      have q1 : ¬ m.channel = 0 := by omega
      have q2 : ¬ 4 < m.channel := by omega
      simp [session_Session_may, hop, hbb, hbo, q.1, q1, q2]
    · rw [if_neg q]
  have hm3 : ¬ (m.kind = 1 ∧ 0 < m.channel ∧ m.channel ≤ 4) → session_Session_may b m ≠ 0 := by
    intro q
    simp only [session_Session_may, hop, hbb, hbo]
    by_cases a : m.kind = 1 <;> by_cases z : m.channel = 0 <;> by_cases y : 4 < m.channel <;> by_cases x : m.kind = 0 <;> simp [a, z, y, x] <;> omega
  have e1 : (decide ((session_Session_Plan (session_New [108, 111, 119]) m t).2.2.2 = 0)) = (decide (m.kind = 0) && decide (m.channel = 0) && decide (m.n = 1)) := by
    rw [plan_e, hh]
    by_cases a : m.kind = 0 <;> by_cases b : m.channel = 0 <;> by_cases d : m.n = 1 <;> simp [a, b, d]
  have e2 : session_Session_Begun (session_Session_Plan (session_New [108, 111, 119]) m t).1 = (decide (m.kind = 0) && decide (m.channel = 0) && decide (m.n = 1)) := by
    by_cases q : m.kind = 0 ∧ m.channel = 0 ∧ m.n = 1
    · have hz : session_Session_may (session_New [108, 111, 119]) m = 0 := by rw [hh, if_pos ⟨q.1, q.2.1⟩, if_pos q.2.2]
      simp [session_Session_Plan, lt, hz, q.1, q.2.1, q.2.2, session_Session_Begun]
    · have hz : session_Session_may (session_New [108, 111, 119]) m ≠ 0 := by
        rw [hh]
        by_cases a : m.kind = 0 <;> by_cases b : m.channel = 0 <;> by_cases d : m.n = 1 <;> simp [a, b, d] <;> (exact absurd ⟨a, b, d⟩ q)
      rw [plan_no _ _ _ hz]
      by_cases a : m.kind = 0 <;> by_cases b : m.channel = 0 <;> by_cases d : m.n = 1 <;> simp [a, b, d, session_Session_Begun, session_New] <;> (exact absurd ⟨a, b, d⟩ q)
  have e3 : ∀ s : SessionR, ((!decide ((session_Session_Plan s m t).2.2.2 = 0)) && decide (0 < ((session_Session_Plan s m t).2.1.length : Int) + ((session_Session_Plan s m t).2.2.1.length : Int))) = false := by
    intro s
    by_cases q : session_Session_may s m = 0
    · rw [plan_e, q]; rfl
    · rw [plan_no _ _ _ q]; simp
  have e4 : decide ((session_Session_Plan b m t).2.2.2 = 0) = (decide (m.kind = 1) && decide (0 < m.channel) && decide (m.channel ≤ 4)) := by
    rw [plan_e]
    by_cases q : m.kind = 1 ∧ 0 < m.channel ∧ m.channel ≤ 4
    · rw [hm2, if_pos q]; simp [q]
    · have := hm3 q
      simp only [this, decide_false]
      by_cases a : m.kind = 1 <;> by_cases z : 0 < m.channel <;> by_cases y : m.channel ≤ 4 <;> simp [a, z, y] <;> exact absurd ⟨a, z, y⟩ q
  have e5 : session_Session_Begun (session_Session_Plan b m t).1 = true := by
    by_cases q : m.kind = 1 ∧ 0 < m.channel ∧ m.channel ≤ 4
    · have hz : session_Session_may b m = 0 := by rw [hm2, if_pos q]
      simp [session_Session_Plan, lt, hz, q.1, session_Session_Begun, hbb]
    · rw [plan_no _ _ _ (hm3 q)]; exact hbb
  have e6 := e3 b
  have e7 := e3 (session_New [108, 111, 119])
  generalize session_Session_Plan b m t = c at e4 e5 e6 ⊢
  generalize session_Session_Plan (session_New [108, 111, 119]) m t = d at e1 e2 e7 ⊢
  simp only [e6, e7]
  simp only [e1, e2, e4, e5, beq_self_eq_true, Bool.not_true, Bool.or_self, cond_false, decide_true]
  rw [plan_e, stk_eq, send_eq]
  have hz : ∀ k, tkL (⟨c.1.place, c.1.feed, c.1.begun, true, ⟨zslot, zslot, zslot, zslot, zslot⟩⟩ : SessionR) k = [] := fun k => tkL_closed (by
    match k with
    | 0 => rfl
    | 1 => rfl
    | 2 => rfl
    | 3 => rfl
    | _ + 4 => rfl)
  simp [hz, session_Session_Over, session_Session_may]
end Go.SW.V
