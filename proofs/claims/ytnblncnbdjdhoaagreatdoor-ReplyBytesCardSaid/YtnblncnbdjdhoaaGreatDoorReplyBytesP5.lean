/-
  A part of the proof of ReplyBytes: The walks of this seat, printed by program: stairwellref07.Bytes. The walks of this seat, printed by program: stairwellref12.Check. The walks of this seat, printed by program: deed.Deed], deed.Deed], deed.Deed], deed.Deed], chans.Taker], chans.Taker], chans.Taker], chans.Taker], chans.Lent], chans.Lent], chans.Lent], chans.Lent], route.Shop], route.Shop], route.Bind], route.Bind]. The walks of this seat, printed by program: draft.Draft.Settles$1, draft.Draft.Settles, draft.clone, draft.Draft.check, stairwellref26.Settles, chans.New, chans.Chan.Credit, chans.Chan.Room, chans.Chan.of$1, chans.Chan.of, chans.Chan.Sure, chans.Chan.Put, chans.Chan.Number, chans.Chan.Draft, chans.Chan.Drafts, chans.Chan.Undo, stairwellref27.New, stairwellref27.Credit, stairwellref27.Room, stairwellref27.Sure, stairwellref27.Put, stairwellref27.Draft, stairwellref27.Undo. The walks of this seat, printed by program: route.put, route.Book.Make, route.Book.there. The walks of this seat, printed by program: route.Book.Bind, route.Book.Leads. The walks of this seat, printed by program: draft.Draft.Add, draft.Draft.At, stairwellref26.Add, stairwellref26.At, stairwelllaw22.All, stairwelllaw23.Light, stairwellref22.SameAll, chans.Chan.Take, chans.Chan.Leave, chans.Chan.Takers, chans.Chan.Lend, chans.Chan.Unsettled, chans.Chan.Settles, chans.Chan.Gone, stairwellref27.Take, stairwellref27.Leave, stairwellref27.Lend, stairwellref27.Open. The walks of this seat, printed by program: chans.Chan.Hold, chans.Chan.Held, stairwellref27.Settles, stairwellref27.Gone, stairwellref27.Hold, stairwellref27.Held. The walks of this seat, printed by program: stairwelllaw14.awake, stairwelllaw14.Awake, stairwelllaw22.awake, stairwelllaw22.Awake, stairwelllaw26.awake, stairwelllaw26.Awake, stairwelllaw27.awake, stairwelllaw27.Awake. The walks of this seat, printed by program: stairwelllaw27.Light, stairwelllaw27.settled, stairwelllaw27.done. The walks of this seat, printed by program: strings.ContainsAny, method.Method.tells, method.Method.spare, method.Same, stairwellref11.Same, stairwellref11.Of. The walks of this seat, printed by program: method.Method.one, method.Method.Check, stairwelllaw11.To, stairwelllaw11.Light, stairwellref11.Check, stairwellref01.In.Fail. The walks of this seat, printed by program: method.Method.Frame, stairwellref01.In.Raw. The walks of this seat, printed by program: stairwellref01.In.Num, stairwellref01.In.End, method.Of. The walks of this seat, printed by program: stairwellref01.In.Text. The walks of this seat, printed by program: stairwellref09.Read. The walks of this seat, printed by program: stairwellref11.Parse. The walks of this seat, printed by program: stairwelllaw11.awake. The walks of this seat, printed by program: strings.Builder.copyCheck. The walks of this seat, printed by program: reply.Bytes. The walks of this seat, printed by program: stairwellref12.Frame, stairwelllaw12.All. The walks of this seat, printed by program: stairwellref12.Bytes, reply.Of. Th
-/
import Derived.Test.YtnblncnbdjdhoaaGreatDoorProg
import Derived.Test.YtnblncnbdjdhoaaGreatDoorReplyBytesP3
import Derived.KernelRfl
import Derived.Test.YtnblncnbdjdhoaaGreatDoorReplyBytesP4
import Derived.Test.YtnblncnbdjdhoaaGreatDoorReplyBytesP1
set_option linter.unusedVariables false
set_option linter.unusedSimpArgs false
set_option linter.unusedVariables false
set_option maxRecDepth 100000
set_option maxHeartbeats 4000000
namespace Go.SW.V
open Go.SW Go.Proofs
theorem cb60 : Callable Tryz.prog 60 := callable_of Tryz.func60 (by kernel_rfl) (by kernel_rfl)
def tbv30 : Tb := [(5, ⟨.int .u8, 1, 1, [.int .u8 0]⟩),
  (9, ⟨.str, 1, 16, [.str []]⟩),
  (25, ⟨.int .u64, 1, 8, [.int .u64 0]⟩),
  (142, ⟨.slc 5, 1, 24, [.sl u8c []]⟩),
  (152, ⟨.agg [(0, 1), (1, 1), (2, 1)], 3, 24, [.int .u8 0, .int .u8 0, .str []]⟩),
  (228, ⟨.int .u32, 1, 4, [.int .u32 0]⟩)]
theorem tbv30ok : tbB Tryz.prog tbv30 = true := by kernel_rfl
theorem r7_Bytes (f : Frame) (hb : f.body.length ≤ 2048) : Fn Tryz.prog gb 60 [.agg (Frame.pc f)] (.str (frB f)) := by
  refine fn_cw tbv30ok Tryz.func60 rfl Tryz.ntmps60 rfl cb60 rfl rfl fun w N H hG => ?_
  have f_w := Frame.pwf w.1
  have f_w' := f_w
  simp only [Frame.wf] at f_w'
  refine go tbv30ok 2 rfl rfl trivial ?_
  refine ef (boxA 0 rfl rfl rfl fun b1 => ?_)
  refine go tbv30ok 4 rfl rfl trivial ?_
  refine any [1, 2, 3, 4, 5, 6] 11 mixd rfl ?_
  refine gov tbv30ok [0, 1, 2, 3, 6, 7] 5 rfl (by kernel_rfl) rfl rfl trivial ?_
  refine vcall 8 rfl (by kernel_rfl) (r1_Text _ (by first | omega | (simp; done) | (simp; omega))) rfl rfl fun w2 => ?_
  have := txtB_len f.body
  refine ve 4 rfl (by kernel_rfl) rfl (bsl 1 u8c [UInt8.ofNat (f.channel).toNat, UInt8.ofNat (f.kind).toNat] tbv30ok rfl rfl rfl rfl (by first | (simp only [List.map_cons, List.map_nil, u8c]; (repeat rw [u8row (by omega)]); done) | (simp only [List.map_cons, List.map_nil, u8c]; (repeat rw [u8row (by omega)]); rfl) | (simp [u8c]; omega)) (fun _ => rfl) rfl (by decide) (by decide) rfl fun u3 => ?_)
  refine ve 5 rfl (by kernel_rfl) rfl (sb2s tbv30ok rfl rfl rfl rfl rfl rfl rfl rfl rfl (by simp) rfl ?_)
  refine gov tbv30ok [9, 10] 0 rfl (by kernel_rfl) rfl rfl ⟨(by first | omega | (simp only [List.length_append, List.length_cons, List.length_nil]; omega) | (simp only [List.length_append, List.length_cons, List.length_nil, numB_len]; omega)), trivial⟩ ?_
  refine vdone (by kernel_rfl) ?_
  refine go tbv30ok 5 rfl rfl trivial ?_
  refine call (r2_Sum _) rfl rfl fun w4 => ?_
  have := crcSum_r [([UInt8.ofNat (f.channel).toNat, UInt8.ofNat (f.kind).toNat] ++ (txtB f.body))]
  refine go tbv30ok 1 rfl rfl trivial ?_
  refine call (r1_Num _ _) rfl rfl fun w5 => ?_
  have := numB_len (numK 4) (crcSum [([UInt8.ofNat (f.channel).toNat, UInt8.ofNat (f.kind).toNat] ++ (txtB f.body))]).toNat
  have := numK_le 4
  have : numK 4 = 4 := by decide
  refine go tbv30ok 6 rfl rfl ⟨(by first | omega | (simp only [List.length_append, List.length_cons, List.length_nil]; omega) | (simp only [List.length_append, List.length_cons, List.length_nil, numB_len]; omega)), (by first | omega | (simp only [List.length_append, List.length_cons, List.length_nil]; omega) | (simp only [List.length_append, List.length_cons, List.length_nil, numB_len]; omega)), trivial⟩ ?_
  refine rt1 rfl rfl ?_
  refine ple ?_
  have k4 : numK 4 = 4 := by decide
  have e1 : [UInt8.ofNat f.channel.toNat, UInt8.ofNat f.kind.toNat] = numB 1 f.channel.toNat ++ numB 1 f.kind.toNat := by simp [numB]
  have e2 : ([206] : Bs) = numB 1 206 := by decide
  refine congrArg PV.str ?_
  unfold frB fSum
  simp only [k4, e1, e2, List.append_assoc]
  try rfl
end Go.SW.V
set_option linter.unusedVariables false
set_option maxRecDepth 100000
set_option maxHeartbeats 4000000
namespace Go.SW.V
open Go.SW Go.Proofs
theorem cb10 : Callable Tryz.prog 10 := callable_of Tryz.func10 (by kernel_rfl) (by kernel_rfl)
def tbv31 : Tb := [(4, ⟨.bool, 1, 1, [.bool false]⟩),
  (5, ⟨.int .u8, 1, 1, [.int .u8 0]⟩),
  (9, ⟨.str, 1, 16, [.str []]⟩),
  (25, ⟨.int .u64, 1, 8, [.int .u64 0]⟩),
  (26, ⟨.slc 224, 1, 24, [.sl Pair.pc []]⟩),
  (28, ⟨.agg [(0, 1), (1, 1), (2, 1), (3, 1), (4, 1), (5, 1), (6, 1)], 7, 96, [.int .u64 0, .str [], .str [], .sl Pair.pc [], .str [], .int .u64 0, .int .u8 0]⟩),
  (33, ⟨.agg [(0, 1), (1, 1), (2, 1), (3, 1), (4, 1), (5, 1), (6, 7)], 13, 144, [.int .u8 0, .int .u8 0, .int .u64 0, .int .u64 0, .bool false, .str [], .int .u64 0, .str [], .str [], .sl Pair.pc [], .str [], .int .u64 0, .int .u8 0]⟩)]
theorem tbv31ok : tbB Tryz.prog tbv31 = true := by kernel_rfl
theorem r12_Check (r : Reply) : Fn Tryz.prog gb 10 [.agg (Reply.pc r)] (.int .i64 (replyE r)) := by
  refine fn_cw tbv31ok Tryz.func10 rfl Tryz.ntmps10 rfl cb10 rfl rfl fun w N H hG => ?_
  have r_w := Reply.pwf w.1
  have r_w' := r_w
  simp only [Reply.wf, Mail.wf] at r_w'
  have r_mail_head_k := Reply.kd9 w.1
  have r_mail_head_k2 : r.mail.head.length ≤ 140737488355328 := w.1.2.2.2.2.2.2.2.2.2.1.1
  refine go tbv31ok 2 rfl rfl trivial ?_
  refine ef (boxA 0 rfl rfl rfl fun b1 => ?_)
  refine go tbv31ok 11 rfl rfl trivial ?_
  refine cnd rfl (fun h2 => ?_) (fun h2 => ?_)
  · have p3 := dt h2
    refine go tbv31ok 7 rfl rfl trivial ?_
    refine rt1 rfl rfl ?_
    refine ple ?_
    have hbo : besidesOf false = [] := rfl
    (try simp only [hbo] at *)
    refine congrArg (PV.int .i64) ?_
    rw [replyE_doc]
    (try simp only [Bool.or_eq_true, Bool.and_eq_true, Bool.not_eq_true', decide_eq_true_eq, Bool.or_eq_false_iff, Bool.and_eq_false_iff, Bool.not_eq_false', decide_eq_false_iff_not, beq_iff_eq, beq_eq_false_iff_ne] at *)
    simp only [mailE]
    (repeat' split) <;> first | rfl | omega | grind
  · have p4 := df h2
    refine go tbv31ok 6 rfl rfl trivial ?_
    refine ef (alloc tbv31ok 1 rfl rfl rfl rfl fun b5 => ?_)
    refine ef (storeA tbv31ok rfl rfl rfl rfl rfl rfl rfl rfl rfl rfl ?_)
    refine go tbv31ok 25 rfl rfl ⟨(fun hc => hc), (fun hc => hc), rfl, rfl, (fun hc => hc), (fun hc => hc), rfl, rfl, (fun hc => hc), (fun hc => hc), (fun hc => hc), (fun hc => hc), trivial⟩ ?_
    refine callg rfl (fun hc => (r12_tellsN _)) rfl ⟨(fun hc => hc), trivial⟩ rfl rfl fun _ => ?_
    refine go tbv31ok 10 rfl rfl ⟨(fun hc => hc), (fun hc => hc), (fun hc => (by rw [hc]; rfl)), (fun hc => rfl), rfl, rfl, (fun hc => hc), (fun hc => hc), (fun hc => hc), (fun hc => hc), trivial⟩ ?_
    refine callg rfl (fun hc => (r12_tellsM _)) rfl ⟨(fun hc => hc), trivial⟩ rfl rfl fun _ => ?_
    refine go tbv31ok 15 rfl rfl ⟨(fun hc => hc), (fun hc => hc), (fun hc => (by rw [hc]; rfl)), (fun hc => rfl), rfl, rfl, (fun hc => hc), (fun hc => hc), (fun hc => hc), (fun hc => hc), (fun hc => hc), (fun hc => hc), (fun hc => (by rw [hc]; rfl)), (fun hc => rfl), rfl, rfl, trivial⟩ ?_
    refine cnd rfl (fun h6 => ?_) (fun h6 => ?_)
    · refine go tbv31ok 7 rfl rfl trivial ?_
      refine rt1 rfl rfl ?_
      refine ple ?_
      have hbo : besidesOf false = [] := rfl
      (try simp only [hbo] at *)
      refine congrArg (PV.int .i64) ?_
      rw [replyE_doc]
      (try simp only [Bool.or_eq_true, Bool.and_eq_true, Bool.not_eq_true', decide_eq_true_eq, Bool.or_eq_false_iff, Bool.and_eq_false_iff, Bool.not_eq_false', decide_eq_false_iff_not, beq_iff_eq, beq_eq_false_iff_ne] at *)
      simp only [mailE]
      (repeat' split) <;> first | rfl | omega | grind
    · have h7 := orl h6
      have h8 := orl h7
      have h9 := orl h8
      have h10 := orl h9
      have h11 := orl h10
      have h12 := not_f h11
      have p13 := dt h12
      have h14 := orr h10
      have h15 := not_f h14
      have p16 := dt h15
      have h17 := orr h9
      have h18 := not_f h17
      have p19 := dt h18
      have h20 := orr h8
      have h21 := orr h7
      have h22 := orr h6
      refine go tbv31ok 10 rfl rfl trivial ?_
      refine cnd rfl (fun h23 => ?_) (fun h23 => ?_)
      · have h24 := not_t h23
        have p25 := df h24
        refine go tbv31ok 28 rfl rfl ⟨(fun hc => hc), (fun hc => hc), rfl, rfl, (fun hc => hc), (fun hc => hc), rfl, rfl, (fun hc => hc), (fun hc => hc), (fun hc => hc), rfl, rfl, (fun hc => hc), (fun hc => hc), rfl, rfl, trivial⟩ ?_
        refine cnd rfl (fun h26 => ?_) (fun h26 => ?_)
        · refine go tbv31ok 8 rfl rfl trivial ?_
          refine rt1 rfl rfl ?_
          refine ple ?_
          have hbo : besidesOf false = [] := rfl
          (try simp only [hbo] at *)
          refine congrArg (PV.int .i64) ?_
          rw [replyE_doc]
          (try simp only [Bool.or_eq_true, Bool.and_eq_true, Bool.not_eq_true', decide_eq_true_eq, Bool.or_eq_false_iff, Bool.and_eq_false_iff, Bool.not_eq_false', decide_eq_false_iff_not, beq_iff_eq, beq_eq_false_iff_ne] at *)
          simp only [mailE]
          (repeat' split) <;> first | rfl | omega | grind
        · have h27 := orl h26
          have h28 := orl h27
          have h29 := orl h28
          have h30 := orl h29
          have h31 := orr h29
          have h32 := not_f h31
          have p33 := dt h32
          have h34 := orr h28
          have h35 := not_f h34
          have p36 := dt h35
          have h37 := orr h27
          have p38 := df h37
          have h39 := orr h26
          have h40 := not_f h39
          have p41 := dt h40
          refine go tbv31ok 10 rfl rfl trivial ?_
          refine cnd rfl (fun h42 => ?_) (fun h42 => ?_)
          · have p43 := dt h42
            refine go tbv31ok 4 rfl rfl trivial ?_
            refine call (r4_Name _) rfl rfl fun w44 => ?_
            refine go tbv31ok 6 rfl rfl trivial ?_
            refine rt1 rfl rfl ?_
            refine ple ?_
            have hbo : besidesOf false = [] := rfl
            (try simp only [hbo] at *)
            refine congrArg (PV.int .i64) ?_
            rw [replyE_doc]
            (try simp only [Bool.or_eq_true, Bool.and_eq_true, Bool.not_eq_true', decide_eq_true_eq, Bool.or_eq_false_iff, Bool.and_eq_false_iff, Bool.not_eq_false', decide_eq_false_iff_not, beq_iff_eq, beq_eq_false_iff_ne] at *)
            simp only [mailE]
            (repeat' split) <;> first | rfl | omega | grind
          · have p45 := df h42
            refine go tbv31ok 9 rfl rfl trivial ?_
            refine rt1 rfl rfl ?_
            refine ple ?_
            have hbo : besidesOf false = [] := rfl
            (try simp only [hbo] at *)
            refine congrArg (PV.int .i64) ?_
            rw [replyE_doc]
            (try simp only [Bool.or_eq_true, Bool.and_eq_true, Bool.not_eq_true', decide_eq_true_eq, Bool.or_eq_false_iff, Bool.and_eq_false_iff, Bool.not_eq_false', decide_eq_false_iff_not, beq_iff_eq, beq_eq_false_iff_ne] at *)
            simp only [mailE]
            (repeat' split) <;> first | rfl | omega | grind
      · have h46 := not_f h23
        have p47 := dt h46
        refine go tbv31ok 6 rfl rfl trivial ?_
        refine call (r4_Name _) rfl rfl fun w48 => ?_
        refine go tbv31ok 10 rfl rfl trivial ?_
        refine cnd rfl (fun h49 => ?_) (fun h49 => ?_)
        · have p50 := dt h49
          refine go tbv31ok 3 rfl rfl trivial ?_
          refine call (r4_Key _ _) rfl rfl fun w51 => ?_
          refine go tbv31ok 10 rfl rfl trivial ?_
          refine cnd rfl (fun h52 => ?_) (fun h52 => ?_)
          · have p53 := dt h52
            refine go tbv31ok 3 rfl rfl trivial ?_
            refine call (r9_Check _) rfl rfl fun w54 => ?_
            refine go tbv31ok 16 rfl rfl ⟨(fun hc => hc), (fun hc => hc), (fun hc => hc), rfl, rfl, trivial⟩ ?_
            refine cnd rfl (fun h55 => ?_) (fun h55 => ?_)
            · have h56 := bl h55
              have p57 := dt h56
              have h58 := br h55
              have p59 := dt h58
              refine go tbv31ok 11 rfl rfl trivial ?_
              refine rt1 rfl rfl ?_
              refine ple ?_
              have hbo : besidesOf false = [] := rfl
              (try simp only [hbo] at *)
              refine congrArg (PV.int .i64) ?_
              rw [replyE_doc]
              (try simp only [Bool.or_eq_true, Bool.and_eq_true, Bool.not_eq_true', decide_eq_true_eq, Bool.or_eq_false_iff, Bool.and_eq_false_iff, Bool.not_eq_false', decide_eq_false_iff_not, beq_iff_eq, beq_eq_false_iff_ne] at *)
              simp only [mailE]
              (repeat' split) <;> first | rfl | omega | grind
            · refine go tbv31ok 9 rfl rfl trivial ?_
              refine rt1 rfl rfl ?_
              refine ple ?_
              have hbo : besidesOf false = [] := rfl
              (try simp only [hbo] at *)
              refine congrArg (PV.int .i64) ?_
              rw [replyE_doc]
              (try simp only [Bool.or_eq_true, Bool.and_eq_true, Bool.not_eq_true', decide_eq_true_eq, Bool.or_eq_false_iff, Bool.and_eq_false_iff, Bool.not_eq_false', decide_eq_false_iff_not, beq_iff_eq, beq_eq_false_iff_ne] at *)
              simp only [mailE]
              (repeat' split) <;> first | rfl | omega | grind
          · have p60 := df h52
            refine go tbv31ok 15 rfl rfl ⟨(fun hc => hc), (fun hc => hc), (fun hc => hc), rfl, rfl, trivial⟩ ?_
            refine cnd rfl (fun h61 => ?_) (fun h61 => ?_)
            · have h62 := bl h61
              have p63 := dt h62
              have h64 := br h61
              have p65 := dt h64
              refine go tbv31ok 11 rfl rfl trivial ?_
              refine rt1 rfl rfl ?_
              refine ple ?_
              have hbo : besidesOf false = [] := rfl
              (try simp only [hbo] at *)
              refine congrArg (PV.int .i64) ?_
              rw [replyE_doc]
              (try simp only [Bool.or_eq_true, Bool.and_eq_true, Bool.not_eq_true', decide_eq_true_eq, Bool.or_eq_false_iff, Bool.and_eq_false_iff, Bool.not_eq_false', decide_eq_false_iff_not, beq_iff_eq, beq_eq_false_iff_ne] at *)
              simp only [mailE]
              (repeat' split) <;> first | rfl | omega | grind
            · refine go tbv31ok 9 rfl rfl trivial ?_
              refine rt1 rfl rfl ?_
              refine ple ?_
              have hbo : besidesOf false = [] := rfl
              (try simp only [hbo] at *)
              refine congrArg (PV.int .i64) ?_
              rw [replyE_doc]
              (try simp only [Bool.or_eq_true, Bool.and_eq_true, Bool.not_eq_true', decide_eq_true_eq, Bool.or_eq_false_iff, Bool.and_eq_false_iff, Bool.not_eq_false', decide_eq_false_iff_not, beq_iff_eq, beq_eq_false_iff_ne] at *)
              simp only [mailE]
              (repeat' split) <;> first | rfl | omega | grind
        · have p66 := df h49
          refine go tbv31ok 9 rfl rfl trivial ?_
          refine cndF rfl h49 ?_
          refine go tbv31ok 15 rfl rfl ⟨(fun hc => hc), (fun hc => hc), (fun hc => hc), rfl, rfl, trivial⟩ ?_
          refine cnd rfl (fun h67 => ?_) (fun h67 => ?_)
          · have h68 := bl h67
            have p69 := dt h68
            have h70 := br h67
            have p71 := dt h70
            refine go tbv31ok 11 rfl rfl trivial ?_
            refine rt1 rfl rfl ?_
            refine ple ?_
            have hbo : besidesOf false = [] := rfl
            (try simp only [hbo] at *)
            refine congrArg (PV.int .i64) ?_
            rw [replyE_doc]
            (try simp only [Bool.or_eq_true, Bool.and_eq_true, Bool.not_eq_true', decide_eq_true_eq, Bool.or_eq_false_iff, Bool.and_eq_false_iff, Bool.not_eq_false', decide_eq_false_iff_not, beq_iff_eq, beq_eq_false_iff_ne] at *)
            simp only [mailE]
            (repeat' split) <;> first | rfl | omega | grind
          · refine go tbv31ok 9 rfl rfl trivial ?_
            refine rt1 rfl rfl ?_
            refine ple ?_
            have hbo : besidesOf false = [] := rfl
            (try simp only [hbo] at *)
            refine congrArg (PV.int .i64) ?_
            rw [replyE_doc]
            (try simp only [Bool.or_eq_true, Bool.and_eq_true, Bool.not_eq_true', decide_eq_true_eq, Bool.or_eq_false_iff, Bool.and_eq_false_iff, Bool.not_eq_false', decide_eq_false_iff_not, beq_iff_eq, beq_eq_false_iff_ne] at *)
            simp only [mailE]
            (repeat' split) <;> first | rfl | omega | grind
end Go.SW.V
set_option linter.unusedVariables false
set_option maxRecDepth 100000
set_option maxHeartbeats 4000000
namespace Go.SW.V
open Go.SW Go.Proofs
end Go.SW.V
set_option linter.unusedVariables false
set_option maxRecDepth 100000
set_option maxHeartbeats 4000000
namespace Go.SW.V
open Go.SW Go.Proofs
end Go.SW.V
set_option linter.unusedVariables false
set_option maxRecDepth 100000
set_option maxHeartbeats 4000000
namespace Go.SW.V
open Go.SW Go.Proofs
end Go.SW.V
set_option linter.unusedVariables false
set_option maxRecDepth 100000
set_option maxHeartbeats 4000000
namespace Go.SW.V
open Go.SW Go.Proofs
end Go.SW.V
set_option linter.unusedVariables false
set_option maxRecDepth 100000
set_option maxHeartbeats 4000000
namespace Go.SW.V
open Go.SW Go.Proofs
end Go.SW.V
set_option linter.unusedVariables false
set_option maxRecDepth 100000
set_option maxHeartbeats 4000000
namespace Go.SW.V
open Go.SW Go.Proofs
end Go.SW.V
set_option linter.unusedVariables false
set_option maxRecDepth 100000
set_option maxHeartbeats 4000000
namespace Go.SW.V
open Go.SW Go.Proofs
end Go.SW.V
set_option linter.unusedVariables false
set_option maxRecDepth 100000
set_option maxHeartbeats 4000000
namespace Go.SW.V
open Go.SW Go.Proofs
end Go.SW.V
set_option linter.unusedVariables false
set_option maxRecDepth 100000
set_option maxHeartbeats 4000000
namespace Go.SW.V
open Go.SW Go.Proofs
end Go.SW.V
set_option linter.unusedVariables false
set_option maxRecDepth 100000
set_option maxHeartbeats 4000000
namespace Go.SW.V
open Go.SW Go.Proofs
end Go.SW.V
set_option linter.unusedVariables false
set_option maxRecDepth 100000
set_option maxHeartbeats 4000000
namespace Go.SW.V
open Go.SW Go.Proofs
end Go.SW.V
set_option linter.unusedVariables false
set_option maxRecDepth 100000
set_option maxHeartbeats 4000000
namespace Go.SW.V
open Go.SW Go.Proofs
end Go.SW.V
set_option linter.unusedVariables false
set_option maxRecDepth 100000
set_option maxHeartbeats 4000000
namespace Go.SW.V
open Go.SW Go.Proofs
end Go.SW.V
set_option linter.unusedVariables false
set_option maxRecDepth 100000
set_option maxHeartbeats 4000000
namespace Go.SW.V
open Go.SW Go.Proofs
end Go.SW.V
set_option linter.unusedVariables false
set_option maxRecDepth 100000
set_option maxHeartbeats 4000000
namespace Go.SW.V
open Go.SW Go.Proofs
end Go.SW.V
set_option linter.unusedVariables false
set_option maxRecDepth 100000
set_option maxHeartbeats 4000000
namespace Go.SW.V
open Go.SW Go.Proofs
end Go.SW.V
set_option linter.unusedVariables false
set_option maxRecDepth 100000
set_option maxHeartbeats 4000000
namespace Go.SW.V
open Go.SW Go.Proofs
theorem ag141 : Ag Tryz.prog 141 false := fun w => by kernel_rfl
theorem cb126 : Callable Tryz.prog 126 := callable_of Tryz.func126 (by kernel_rfl) (by kernel_rfl)
theorem fl144_0 : Fld Tryz.prog 144 0 0 := fun b o w => by kernel_rfl
theorem la144_144 : liesAt Tryz.prog Tryz.prog.depth 144 (2 / Tryz.prog.cellsOf 144) 0 144 1 = true := by kernel_rfl
theorem ne180 : NoEsc Tryz.prog 180 := noEsc_of Tryz.func180 (by kernel_rfl) (by kernel_rfl) (by kernel_rfl) (by kernel_rfl)
theorem sz141 : Sz Tryz.prog 141 1 := fun w => by kernel_rfl
theorem ti144 : ∃ j, Tryz.prog.info? 144 = some j := Option.isSome_iff_exists.1 (by kernel_rfl)
theorem tz144 : ∃ j, Tryz.prog.info? 144 = some j ∧ j.size ≠ 0 := exInfo (by kernel_rfl)
set_option maxRecDepth 100000 in
theorem copyCheck {n : Nat} {N : Rest} {F : Fr} {H : Hp} {L : Ls} {ops : List Oper} {ty d : Nat} {pos : String} {af : Array Edge} {K : Fr → Hp → Ls → Prop} {x : Operand} {ats : Array TypeId} {b : Nat} {p v : Value} (i : Nat) (hx : ev F x = .pointer (some ⟨b, 0, none⟩)) (hi : L i = some (b, bx 144 [p, v]))
    (hp : p = .pointer none ∨ p = .pointer (some ⟨b, 0, none⟩)) (hd : Nat.blt d n = true) (k : K (upd F d (.tuple #[])) H (lupd L i (some (b, bx 144 [.pointer (some ⟨b, 0, none⟩), v])))) : Op1 Tryz.prog n N ops ⟨some d, .call ⟨.value (.func 126), #[x], ats⟩, ty, pos, af, none⟩ K F H L := by
  refine op1_in (en_f (vs := [.pointer (some ⟨b, 0, none⟩)]) cb126 (by simp [evs, hx])) Tryz.func126 rfl Tryz.ntmps126 rfl hd ?_
  refine cw_seq ?_
  refine cw_region ?_
  refine ow1 (op1_l rfl (lo_move (v := .pointer (some ⟨_, _, none⟩)) rfl) ?_)
  refine ow1 (op1_l rfl (lo_nilCheck rfl) ?_)
  refine ow1 (op1_l rfl (lo_fieldAddr rfl fl144_0) ?_)
  refine ow1 (op1_l rfl (lo_load1 (i := i) (v := p) rfl ag141 hi rfl) ?_)
  rcases hp with rfl | rfl
  · refine ow1 (op1_l rfl (lo_pnil rfl rfl Tryz.underlying141) ?_)
    refine ow_nil ?_
    refine seqK_n ?_
    refine cw_cond_t rfl rfl ?_
    refine cw_region ?_
    refine ow1 (op1_l rfl (lo_move (v := .pointer (some ⟨_, _, none⟩)) rfl) ?_)
    refine ow1 (op1_l rfl (lo_move (v := .pointer (some ⟨_, _, none⟩)) rfl) ?_)
    refine ow1 (op1_l rfl (lo_toUnsafe (i := i) rfl hi rfl Tryz.underlying141 Tryz.underlying287 (tz144).choose_spec.1 (tz144).choose_spec.2) ?_)
    refine ow1 (op1_l rfl (lo_noEsc (v := .pointer (some ⟨_, _, none⟩)) ne180 rfl) ?_)
    refine ow1 (op1_l rfl (lo_fromUnsafe (i := i) rfl hi Tryz.underlying287 Tryz.underlying141 (ti144).choose_spec la144_144) ?_)
    refine ow1 (op1_l rfl (lo_nilCheck rfl) ?_)
    refine ow1 (op1_l rfl (lo_fieldAddr rfl fl144_0) ?_)
    refine ow1 (op1_store1 (i := i) (v := .pointer (some ⟨_, _, none⟩)) rfl rfl rfl sz141 hi rfl ?_)
    refine ow_nil ?_
    exact fnK_n (res0 rfl) (.refl _) k
  · refine ow1 (op1_l rfl (lo_peq_nil rfl rfl Tryz.underlying141) ?_)
    refine ow_nil ?_
    refine seqK_n ?_
    refine cw_cond_f rfl rfl ?_
    refine cw_seq ?_
    refine cw_region ?_
    refine ow1 (op1_l rfl (lo_move (v := .pointer (some ⟨_, _, none⟩)) rfl) ?_)
    refine ow1 (op1_l rfl (lo_nilCheck rfl) ?_)
    refine ow1 (op1_l rfl (lo_fieldAddr rfl fl144_0) ?_)
    refine ow1 (op1_l rfl (lo_load1 (i := i) (v := .pointer (some ⟨b, 0, none⟩)) rfl ag141 hi rfl) ?_)
    refine ow1 (op1_l rfl (lo_move (v := .pointer (some ⟨_, _, none⟩)) rfl) ?_)
    refine ow1 (op1_l rfl (lo_pne_self rfl rfl Tryz.underlying141 (ti144).choose_spec) ?_)
    refine ow_nil ?_
    refine seqK_n ?_
    refine cw_cond_f rfl rfl ?_
    refine cw_skip ?_
    refine fnK_n (res0 rfl) (.refl _) ?_
    rwa [lupd_eta hi] at k
theorem copyCheck_e {n : Nat} {N : Rest} {H0 : Env} {all : List Oper} {fF : Nat → PV} {fL : Nat → Blk} {ty d : Nat} {pos : String} {af : Array Edge} {x : Operand} {ats : Array TypeId} {K : St → Prop} {i b : Nat} {pv : Value} {q : PV} (hx : evP fF x = .own i b 0) (hb : fL i = .box b 144 [.val pv, q]) (hp : pv = .pointer none ∨ pv = .pointer (some ⟨b, 0, none⟩)) (hd : Nat.blt d n = true)
    (k : K ⟨updp fF d (.tup []), lups fL i (.box b 144 [.val (.pointer (some ⟨b, 0, none⟩)), q])⟩) : E1 Tryz.prog n N H0 all ⟨some d, .call ⟨.value (.func 126), #[x], ats⟩, ty, pos, af, none⟩ (some i) ⟨fF, fL⟩ K := by
  intro F H L ha
  have h1 := (evP_ok ha.f x).sim
  simp only at h1
  rw [hx] at h1
  have h3 := ha.l i
  simp only [hb] at h3
  obtain ⟨vs, hL, hs1, hs2⟩ := h3
  match vs, hs1, hs2, hL with
  | [v1, v2], hs1, hs2, hL =>
    have e1 : v1 = pv := (hs2 0 _ _ rfl rfl).sim.inv_val
    subst e1
    refine copyCheck i h1.inv_own hL hp hd ⟨.refl H, only, _, (ha.turnB i (B := .box b 144 [.val (.pointer (some ⟨b, 0, none⟩)), q]) trivial ⟨[.pointer (some ⟨b, 0, none⟩), v2], rfl, rfl, fun j p v hp' hv => ?_⟩).put (p := .tup []) d (show Sim H (.tup []) (.tuple #[]) from Sim.tup (vs := []) rfl (fun _ _ _ h _ => by cases h)), k⟩
    match j, hp', hv with
    | 0, hp', hv => cases hp'; cases hv; exact Sim.val
    | 1, hp', hv => exact simT_box hb (hs2 1 p v hp' hv)
    | j + 2, hp', hv => cases hp'
end Go.SW.V
set_option linter.unusedVariables false
set_option maxRecDepth 100000
set_option maxHeartbeats 4000000
namespace Go.SW.V
open Go.SW Go.Proofs
theorem cb12 : Callable Tryz.prog 12 := callable_of Tryz.func12 (by kernel_rfl) (by kernel_rfl)
theorem cb58 : Callable Tryz.prog 58 := callable_of Tryz.func58 (by kernel_rfl) (by kernel_rfl)
theorem cb59 : Callable Tryz.prog 59 := callable_of Tryz.func59 (by kernel_rfl) (by kernel_rfl)
def tbv71 : Tb := [(5, ⟨.int .u8, 1, 1, [.int .u8 0]⟩),
  (9, ⟨.str, 1, 16, [.str []]⟩),
  (22, ⟨.slc 30, 1, 24, [.sl Reply.pc []]⟩),
  (30, ⟨.agg [(0, 1), (1, 1), (2, 1), (3, 1), (4, 1), (5, 1), (6, 7)], 13, 144, [.int .u8 0, .int .u8 0, .int .u64 0, .int .u64 0, .bool false, .str [], .int .u64 0, .str [], .str [], .sl Pair.pc [], .str [], .int .u64 0, .int .u8 0]⟩),
  (50, ⟨.agg [(0, 1), (1, 1), (2, 1)], 3, 24, [.int .u8 0, .int .u8 0, .str []]⟩),
  (142, ⟨.slc 5, 1, 24, [.sl u8c []]⟩),
  (144, ⟨.agg [(0, 1), (1, 1)], 2, 32, [.val (.pointer none), .val (.slice none 0 0)]⟩)]
theorem tbv71ok : tbB Tryz.prog tbv71 = true := by kernel_rfl
theorem reply_Bytes_ok (l : List Reply) (hl : l.length ≤ 1000) : Fn Tryz.prog gb 12 [.sl Reply.pc l] (.str (reply_Bytes l)) := by
  refine fn_cw tbv71ok Tryz.func12 rfl Tryz.ntmps12 rfl cb12 rfl rfl fun w N H hG => ?_
  have l_l : l.length ≤ 140737488355328 := w.1.1
  have e0 := reply_Bytes.eq_1 l
  refine go tbv71ok 7 rfl rfl trivial ?_
  refine ef (alloc tbv71ok 0 rfl rfl rfl rfl fun b1 => ?_)
  refine go tbv71ok 11 rfl rfl trivial ?_
  refine bx_own (i := 0) (o := 1) (k := 1) (e := 5) 1 u8c rfl (by decide) rfl rfl ?_
  refine loop (ι := Nat × Bs × Value × Value) [2, 3, 10, 11] [] (fun ⟨k, x, p_x, u_x⟩ => [(12, .int .i64 (k : Int))]) (fun ⟨k, x, p_x, u_x⟩ => [(0, .box b1 144 [.val p_x, .osl 1]), (1, .arr u_x 1 5 u8c x)]) (fun ⟨k, x, p_x, u_x⟩ => k ≤ l.length ∧ reply_Bytes l = reply_Bytes_l0 (l.drop k)  x ∧ (x.length ≤ 10000 * k) ∧ (p_x = .pointer none ∨ p_x = .pointer (some ⟨b1, 0, none⟩)) ∧ (x.length = 0 → u_x = .slice none 0 0)) (fun ⟨k, x, p_x, u_x⟩ => l.length - k) ⟨0, [], (.pointer none), (.slice none 0 0)⟩ ⟨rfl, trivial⟩ ⟨rfl, rfl, trivial⟩ ?_ ?_
  · exact ⟨Nat.zero_le _, e0, (by simp), (.inl rfl), (fun _ => rfl)⟩
  · rintro ⟨k, x, p_x, u_x⟩ ⟨hp2_1, hp2_2, hp2_3, hb_p_x, hb_u_x⟩
    refine go tbv71ok 6 rfl rfl trivial ?_
    refine cnd rfl (fun h3 => ?_) (fun h3 => ?_)
    · have p4 := dt h3
      have e5 := lstep (f := fun zz => reply_Bytes_l0 zz  x) hp2_2 (dropG (by omega)) (reply_Bytes_l0.eq_2 _ _ _)
      have hc6 := getG (xs := l) (k := k) (by omega)
      have hrf_hc6 := @rfb_len (gt l k)
      refine go tbv71ok 6 rfl rfl trivial ?_
      refine q1 (qidx tbv71ok k rfl rfl rfl hc6 rfl rfl rfl rfl) rfl fun w7 => ?_
      refine go tbv71ok 1 rfl rfl trivial ?_
      refine ef (alloc tbv71ok 2 rfl rfl rfl rfl fun b8 => ?_)
      refine ef (storeA tbv71ok rfl rfl rfl rfl rfl rfl rfl rfl rfl rfl ?_)
      refine go tbv71ok 5 rfl rfl trivial ?_
      refine call (reply_Frame _) rfl rfl fun w9 => ?_
      refine go tbv71ok 3 rfl rfl trivial ?_
      refine ef (alloc tbv71ok 3 rfl rfl rfl rfl fun b10 => ?_)
      refine ef (storeA tbv71ok rfl rfl rfl rfl rfl rfl rfl rfl rfl rfl ?_)
      refine go tbv71ok 10 rfl rfl trivial ?_
      refine cnd rfl (fun h11 => ?_) (fun h11 => ?_)
      · have h12 := not_t h11
        have p13 := df h12
        have e14 := e5.trans (condT h11)
        refine go tbv71ok 8 rfl rfl ⟨(by omega), trivial⟩ ?_
        refine next ⟨(k + 1), x, (p_x), (u_x)⟩ rfl rfl ⟨rfl, trivial⟩ ⟨rfl, rfl, trivial⟩ ?_ ?_
        · (try simp only []); omega
        · exact ⟨by (try simp only []); omega, e14, (by (try simp only [List.length_append]); omega), hb_p_x, hb_u_x⟩
      · have h15 := not_f h11
        have p16 := dt h15
        have e17 := e5.trans (condF h11)
        refine go tbv71ok 5 rfl rfl trivial ?_
        refine call (frame_Bytes _) rfl rfl fun w18 => ?_
        refine go tbv71ok 9 rfl rfl trivial ?_
        refine hinl [] tbv71ok Tryz.func58 rfl Tryz.ntmps58 cb58 rfl rfl rfl rfl fun Hc19 hHc19 => ?_
        refine go tbv71ok 9 rfl rfl trivial ?_
        refine ef (copyCheck_e rfl rfl hb_p_x rfl ?_)
        refine go tbv71ok 10 rfl rfl trivial ?_
        refine ef (app tbv71ok (frameBytes (replyFrame (gt l k))) rfl rfl rfl rfl rfl rfl rfl rfl rfl (src_s rfl) (by first | omega | (simp; omega)) rfl fun u20 => ?_)
        refine go tbv71ok 2 rfl rfl trivial ?_
        refine ef (sto_osl tbv71ok rfl rfl rfl rfl rfl rfl rfl rfl rfl ?_)
        refine go tbv71ok 11 rfl rfl trivial ?_
        refine inlr rfl rfl rfl trivial ?_
        refine go tbv71ok 7 rfl rfl ⟨(by omega), trivial⟩ ?_
        refine next ⟨(k + 1), (x ++ frameBytes (replyFrame (gt l k))), (.pointer (some ⟨b1, 0, none⟩)), (u20)⟩ rfl rfl ⟨rfl, trivial⟩ ⟨rfl, rfl, trivial⟩ ?_ ?_
        · (try simp only []); omega
        · exact ⟨by (try simp only []); omega, e17, (by (try simp only [List.length_append]); omega), (.inr rfl), (fun h => absurd h (by (try simp only [List.length_append, List.length_cons, List.length_nil]); omega))⟩
    · have p21 := df h3
      have e22 := lstep (f := fun zz => reply_Bytes_l0 zz  x) hp2_2 (dropN (by omega)) (reply_Bytes_l0.eq_1 _)
      refine go tbv71ok 7 rfl rfl trivial ?_
      refine hinl [] tbv71ok Tryz.func59 rfl Tryz.ntmps59 cb59 rfl rfl rfl rfl fun Hc23 hHc23 => ?_
      refine go tbv71ok 6 rfl rfl trivial ?_
      refine any [1, 2, 3, 4, 5, 6, 7] 12 mixd rfl ?_
      refine gov tbv71ok [0, 1, 2, 3] 8 rfl (by kernel_rfl) rfl rfl trivial ?_
      refine vq 4 (qusd rfl rfl hb_u_x) rfl (by kernel_rfl) rfl fun w24 => ?_
      refine gov tbv71ok [5, 6, 7, 8, 9] 2 rfl (by kernel_rfl) rfl rfl trivial ?_
      refine ve 10 rfl (by kernel_rfl) rfl (bld_str (i := 1) rfl rfl Tryz.underlying230 (by kernel_rfl) rfl rfl hb_u_x rfl ?_)
      refine gov tbv71ok [11] 0 rfl (by kernel_rfl) rfl rfl trivial ?_
      refine vdone (by kernel_rfl) ?_
      refine go tbv71ok 2 rfl rfl trivial ?_
      refine inlr rfl rfl rfl trivial ?_
      refine go tbv71ok 4 rfl rfl trivial ?_
      exact rt1 rfl rfl (ple_of (fun r : Bs => .str r) e22 (ple rfl))
end Go.SW.V
set_option linter.unusedVariables false
set_option maxRecDepth 100000
set_option maxHeartbeats 4000000
namespace Go.SW.V
open Go.SW Go.Proofs
theorem cb14 : Callable Tryz.prog 14 := callable_of Tryz.func14 (by kernel_rfl) (by kernel_rfl)
theorem cb61 : Callable Tryz.prog 61 := callable_of Tryz.func61 (by kernel_rfl) (by kernel_rfl)
def tbv72 : Tb := [(4, ⟨.bool, 1, 1, [.bool false]⟩),
  (5, ⟨.int .u8, 1, 1, [.int .u8 0]⟩),
  (9, ⟨.str, 1, 16, [.str []]⟩),
  (22, ⟨.slc 30, 1, 24, [.sl Reply.pc []]⟩),
  (25, ⟨.int .u64, 1, 8, [.int .u64 0]⟩),
  (26, ⟨.slc 224, 1, 24, [.sl Pair.pc []]⟩),
  (28, ⟨.agg [(0, 1), (1, 1), (2, 1), (3, 1), (4, 1), (5, 1), (6, 1)], 7, 96, [.int .u64 0, .str [], .str [], .sl Pair.pc [], .str [], .int .u64 0, .int .u8 0]⟩),
  (30, ⟨.agg [(0, 1), (1, 1), (2, 1), (3, 1), (4, 1), (5, 1), (6, 7)], 13, 144, [.int .u8 0, .int .u8 0, .int .u64 0, .int .u64 0, .bool false, .str [], .int .u64 0, .str [], .str [], .sl Pair.pc [], .str [], .int .u64 0, .int .u8 0]⟩),
  (33, ⟨.agg [(0, 1), (1, 1), (2, 1), (3, 1), (4, 1), (5, 1), (6, 7)], 13, 144, [.int .u8 0, .int .u8 0, .int .u64 0, .int .u64 0, .bool false, .str [], .int .u64 0, .str [], .str [], .sl Pair.pc [], .str [], .int .u64 0, .int .u8 0]⟩),
  (37, ⟨.slc 33, 1, 24, [.sl Reply.pc []]⟩),
  (152, ⟨.agg [(0, 1), (1, 1), (2, 1)], 3, 24, [.int .u8 0, .int .u8 0, .str []]⟩)]
theorem tbv72ok : tbB Tryz.prog tbv72 = true := by kernel_rfl
theorem r12_Frame_ok (r : Reply) (hm : SRt r) : Fn Tryz.prog gb 61 [.agg (Reply.pc r)] (.agg (Frame.pc (r12_Frame r))) := by
  refine fn_cw tbv72ok Tryz.func61 rfl Tryz.ntmps61 rfl cb61 rfl rfl fun w N H hG => ?_
  have r_channel_r : 0 ≤ r.channel ∧ r.channel ≤ 255 := w.1.1
  have r_kind_r : 0 ≤ r.kind ∧ r.kind ≤ 255 := w.1.2.1
  have r_n_r : 0 ≤ r.n ∧ r.n ≤ 18446744073709551615 := w.1.2.2.1
  have r_m_r : 0 ≤ r.m ∧ r.m ≤ 18446744073709551615 := w.1.2.2.2.1
  have r_name_l : r.name.length ≤ 9223372036854775807 := w.1.2.2.2.2.2.1
  have r_mail_id_r : 0 ≤ r.mail.id ∧ r.mail.id ≤ 18446744073709551615 := w.1.2.2.2.2.2.2.1
  have r_mail_shop_l : r.mail.shop.length ≤ 9223372036854775807 := w.1.2.2.2.2.2.2.2.1
  have r_mail_key_l : r.mail.key.length ≤ 9223372036854775807 := w.1.2.2.2.2.2.2.2.2.1
  have r_mail_head_l : r.mail.head.length ≤ 140737488355328 := w.1.2.2.2.2.2.2.2.2.2.1.1
  have r_mail_body_l : r.mail.body.length ≤ 9223372036854775807 := w.1.2.2.2.2.2.2.2.2.2.2.1
  have r_mail_due_r : 0 ≤ r.mail.due ∧ r.mail.due ≤ 18446744073709551615 := w.1.2.2.2.2.2.2.2.2.2.2.2.1
  have r_mail_hops_r : 0 ≤ r.mail.hops ∧ r.mail.hops ≤ 255 := w.1.2.2.2.2.2.2.2.2.2.2.2.2.1
  obtain ⟨hm1, hm2, hm3, hm4, hm5⟩ := id hm
  have e0 := r12_Frame.eq_1 r
  refine go tbv72ok 2 rfl rfl trivial ?_
  refine ef (boxA 0 rfl rfl rfl fun b1 => ?_)
  refine ef (alloc tbv72ok 1 rfl rfl rfl rfl fun b2 => ?_)
  refine go tbv72ok 8 rfl rfl trivial ?_
  obtain ⟨o, e_o, q_o⟩ := lt1_split e0
  refine joinc (ι := Bs) [1, 2] [0, 1] (fun s => [(3, .str s)]) (fun s => []) (fun s => o = s ∧ s.length ≤ 3000000) ?_ ?_
  · refine go tbv72ok 7 rfl rfl trivial ?_
    refine cnd rfl (fun h3 => ?_) (fun h3 => ?_)
    · have p4 := dt h3
      have e5 := e_o.trans (condT h3)
      refine go tbv72ok 3 rfl rfl trivial ?_
      refine call (r1_Text _ (by first | omega | (simp; done) | (simp; omega))) rfl rfl fun w6 => ?_
      have := txtB_len r.name
      refine go tbv72ok 2 rfl rfl trivial ?_
      refine next (txtB r.name) rfl rfl ⟨rfl, trivial⟩ trivial (by decide) ?_
      exact ⟨e5, (by (try simp only [List.length_append, List.length_cons, List.length_nil]); omega)⟩
    · have p7 := df h3
      have e8 := e_o.trans (condF h3)
      refine go tbv72ok 1 rfl rfl trivial ?_
      refine next [] rfl rfl ⟨rfl, trivial⟩ trivial (by decide) ?_
      exact ⟨e8, (by (try simp only [List.length_append, List.length_cons, List.length_nil]); omega)⟩
  · rintro s ⟨hp9, hp9_3⟩
    have e10 := lt1_fin q_o hp9
    refine go tbv72ok 2 rfl rfl trivial ?_
    obtain ⟨o1, e_o1, q_o1⟩ := lt1_split e10
    refine joinc (ι := Bs) [1, 2] [0, 1] (fun s1 => [(3, .str s1)]) (fun s1 => []) (fun s1 => o1 = s1 ∧ s1.length ≤ 6000000) ?_ ?_
    · refine go tbv72ok 4 rfl rfl trivial ?_
      refine call (r12_tellsN _) rfl rfl fun w11 => ?_
      refine go tbv72ok 2 rfl rfl trivial ?_
      refine cnd rfl (fun h12 => ?_) (fun h12 => ?_)
      · have p13 := dt h12
        have e14 := e_o1.trans (condT h12)
        refine go tbv72ok 4 rfl rfl trivial ?_
        refine call (r1_Num _ _) rfl rfl fun w15 => ?_
        have := numB_len (numK 8) (r.n).toNat
        have := numK_le 8
        have : numK 8 = 8 := by decide
        refine go tbv72ok 3 rfl rfl ⟨(by (try simp only [List.length_append, List.length_cons, List.length_nil]); omega), trivial⟩ ?_
        refine next (s ++ (numB (numK 8) r.n.toNat)) rfl rfl ⟨rfl, trivial⟩ trivial (by decide) ?_
        exact ⟨e14, (by (try simp only [List.length_append, List.length_cons, List.length_nil]); omega)⟩
      · have p16 := df h12
        have e17 := e_o1.trans (condF h12)
        refine go tbv72ok 1 rfl rfl trivial ?_
        refine next s rfl rfl ⟨rfl, trivial⟩ trivial (by decide) ?_
        exact ⟨e17, (by (try simp only [List.length_append, List.length_cons, List.length_nil]); omega)⟩
    · rintro s1 ⟨hp18, hp18_3⟩
      have e19 := lt1_fin q_o1 hp18
      refine go tbv72ok 2 rfl rfl trivial ?_
      obtain ⟨o2, e_o2, q_o2⟩ := lt1_split e19
      refine joinc (ι := Bs) [1, 2] [0, 1] (fun s2 => [(3, .str s2)]) (fun s2 => []) (fun s2 => o2 = s2 ∧ s2.length ≤ 9000000) ?_ ?_
      · refine go tbv72ok 4 rfl rfl trivial ?_
        refine call (r12_tellsM _) rfl rfl fun w20 => ?_
        refine go tbv72ok 2 rfl rfl trivial ?_
        refine cnd rfl (fun h21 => ?_) (fun h21 => ?_)
        · have p22 := dt h21
          have e23 := e_o2.trans (condT h21)
          refine go tbv72ok 4 rfl rfl trivial ?_
          refine call (r1_Num _ _) rfl rfl fun w24 => ?_
          have := numB_len (numK 8) (r.m).toNat
          have := numK_le 8
          have : numK 8 = 8 := by decide
          refine go tbv72ok 3 rfl rfl ⟨(by (try simp only [List.length_append, List.length_cons, List.length_nil]); omega), trivial⟩ ?_
          refine next (s1 ++ (numB (numK 8) r.m.toNat)) rfl rfl ⟨rfl, trivial⟩ trivial (by decide) ?_
          exact ⟨e23, (by (try simp only [List.length_append, List.length_cons, List.length_nil]); omega)⟩
        · have p25 := df h21
          have e26 := e_o2.trans (condF h21)
          refine go tbv72ok 1 rfl rfl trivial ?_
          refine next s1 rfl rfl ⟨rfl, trivial⟩ trivial (by decide) ?_
          exact ⟨e26, (by (try simp only [List.length_append, List.length_cons, List.length_nil]); omega)⟩
      · rintro s2 ⟨hp27, hp27_3⟩
        have e28 := lt1_fin q_o2 hp27
        refine go tbv72ok 9 rfl rfl trivial ?_
        refine cnd rfl (fun h29 => ?_) (fun h29 => ?_)
        · have p30 := dt h29
          have e31 := e28.trans (condT h29)
          refine go tbv72ok 6 rfl rfl trivial ?_
          obtain ⟨o3, e_o3, q_o3⟩ := lt1_split e31
          refine joinc (ι := Bs) [1, 2, 3] [0, 1] (fun yes => [(4, .str yes)]) (fun yes => []) (fun yes => o3 = yes ∧ yes.length ≤ 12000000) ?_ ?_
          · refine go tbv72ok 6 rfl rfl trivial ?_
            refine cnd rfl (fun h32 => ?_) (fun h32 => ?_)
            · have e33 := e_o3.trans (condT h32)
              refine go tbv72ok 3 rfl rfl trivial ?_
              refine next [1] rfl rfl ⟨rfl, trivial⟩ trivial (by decide) ?_
              exact ⟨e33, (by (try simp only [List.length_append, List.length_cons, List.length_nil]); omega)⟩
            · have e34 := e_o3.trans (condF h32)
              refine go tbv72ok 1 rfl rfl trivial ?_
              refine next [0] rfl rfl ⟨rfl, trivial⟩ trivial (by decide) ?_
              exact ⟨e34, (by (try simp only [List.length_append, List.length_cons, List.length_nil]); omega)⟩
          · rintro yes ⟨hp35, hp35_3⟩
            have e36 := lt1_fin q_o3 hp35
            refine go tbv72ok 1 rfl rfl trivial ?_
            refine any [2, 3, 4, 5, 6, 7] 24 mixd rfl ?_
            refine gov tbv72ok [0, 1, 2, 3, 4, 5] 18 rfl (by kernel_rfl) rfl rfl ⟨(by (try simp only [List.length_append, List.length_cons, List.length_nil]); omega), trivial⟩ ?_
            refine vcall 6 rfl (by kernel_rfl) (r1_Text _ (by first | omega | (simp; done) | (simp; omega))) rfl rfl fun w37 => ?_
            have := txtB_len r.mail.shop
            refine gov tbv72ok [7, 8, 9, 10] 13 rfl (by kernel_rfl) rfl rfl ⟨(by (try simp only [List.length_append, List.length_cons, List.length_nil]); omega), trivial⟩ ?_
            refine vcall 11 rfl (by kernel_rfl) (r1_Text _ (by first | omega | (simp; done) | (simp; omega))) rfl rfl fun w38 => ?_
            have := txtB_len r.mail.key
            refine gov tbv72ok [12, 13, 14, 15] 8 rfl (by kernel_rfl) rfl rfl ⟨(by (try simp only [List.length_append, List.length_cons, List.length_nil]); omega), trivial⟩ ?_
            refine vcall 16 rfl (by kernel_rfl) (r9_Bytes _ (by first | assumption | exact smallH_lightR (by assumption) | exact smallH_light (by assumption) | exact smallH_ok (by first | assumption | omega))) rfl rfl fun w39 => ?_
            have hsmx39 : smallH r.mail.head := by first | assumption | exact smallH_lightR (by assumption) | exact smallH_light (by assumption) | exact smallH_ok (by first | assumption | omega)
            have := r9B_len hsmx39
            have := hsmx39.1
            refine gov tbv72ok [17, 18, 19, 20] 3 rfl (by kernel_rfl) rfl rfl ⟨(by (try simp only [List.length_append, List.length_cons, List.length_nil]); omega), trivial⟩ ?_
            refine vcall 21 rfl (by kernel_rfl) (r1_Text _ (by first | omega | (simp; done) | (simp; omega))) rfl rfl fun w40 => ?_
            have := txtB_len r.mail.body
            refine gov tbv72ok [22, 23] 0 rfl (by kernel_rfl) rfl rfl ⟨(by (try simp only [List.length_append, List.length_cons, List.length_nil]); omega), trivial⟩ ?_
            refine vdone (by kernel_rfl) ?_
            have := wr_u8 (64 + r.kind)
            refine go tbv72ok 10 rfl rfl trivial ?_
            refine ef (storeA tbv72ok rfl rfl rfl rfl rfl rfl rfl rfl rfl rfl ?_)
            refine go tbv72ok 3 rfl rfl trivial ?_
            exact rt1 rfl rfl (ple_of (fun r : Frame => .agg (Frame.pc r)) e36 (ple rfl))
        · have p41 := df h29
          have e42 := e28.trans (condF h29)
          have := wr_u8 (64 + r.kind)
          refine go tbv72ok 11 rfl rfl trivial ?_
          refine ef (storeA tbv72ok rfl rfl rfl rfl rfl rfl rfl rfl rfl rfl ?_)
          refine go tbv72ok 3 rfl rfl trivial ?_
          exact rt1 rfl rfl (ple_of (fun r : Frame => .agg (Frame.pc r)) e42 (ple rfl))
theorem l12_All_ok (l : List Reply) (hl : l.length ≤ 1000) (ht : ∀ r ∈ l, lightR r = true) : Fn Tryz.prog gb 14 [.sl Reply.pc l] (.sl Reply.pc (l12_All l)) := by
  refine fn_cw tbv72ok Tryz.func14 rfl Tryz.ntmps14 rfl cb14 rfl rfl fun w N H hG => ?_
  have l_l : l.length ≤ 140737488355328 := w.1.1
  have e0 := l12_All.eq_1 l
  refine go tbv72ok 19 rfl rfl trivial ?_
  refine sw_own (t := 3) (k := 13) (e := 33) 0 Reply.pc rfl rfl ?_
  refine loop (ι := Nat × (List Reply) × Value) [2, 6, 7] [] (fun ⟨k, out, u_out⟩ => [(8, .int .i64 (k : Int)), (3, .osl 0)]) (fun ⟨k, out, u_out⟩ => [(0, .arr u_out 13 33 Reply.pc out)]) (fun ⟨k, out, u_out⟩ => k ≤ l.length ∧ l12_All l = l12_All_l0 (l.drop k)  out ∧ out.length ≤ k) (fun ⟨k, out, u_out⟩ => l.length - k) ⟨0, [], (.slice none 0 0)⟩ ⟨rfl, rfl, trivial⟩ ⟨rfl, trivial⟩ ?_ ?_
  · exact ⟨Nat.zero_le _, e0, (by first | omega | (simp; done) | (simp; omega))⟩
  · rintro ⟨k, out, u_out⟩ ⟨hp1_1, hp1_2, hp1_3⟩
    refine go tbv72ok 6 rfl rfl trivial ?_
    refine cnd rfl (fun h2 => ?_) (fun h2 => ?_)
    · have p3 := dt h2
      have e4 := lstep (f := fun zz => l12_All_l0 zz  out) hp1_2 (dropG (by omega)) (l12_All_l0.eq_2 _ _ _)
      have hc5 := getG (xs := l) (k := k) (by omega)
      have ht_hc5 := ht (gt l k) (List.mem_of_getElem? hc5)
      refine go tbv72ok 6 rfl rfl trivial ?_
      refine q1 (qidx tbv72ok k rfl rfl rfl hc5 rfl rfl rfl rfl) rfl fun w6 => ?_
      refine go tbv72ok 1 rfl rfl trivial ?_
      refine ef (alloc tbv72ok 1 rfl rfl rfl rfl fun b7 => ?_)
      refine ef (storeA tbv72ok rfl rfl rfl rfl rfl rfl rfl rfl rfl rfl ?_)
      refine go tbv72ok 5 rfl rfl trivial ?_
      refine call (l12_To _ (by first | omega | (have := lightR_len (gt l k) (by assumption); omega))) rfl rfl fun w8 => ?_
      refine ef (bsl 2 Reply.pc [(gt l k)] tbv72ok rfl rfl rfl rfl rfl (fun _ => rfl) rfl (by decide) (by decide) rfl fun u9 => ?_)
      refine ef (app tbv72ok [(gt l k)] rfl rfl rfl rfl rfl rfl rfl rfl rfl (src_o rfl rfl) (by first | omega | (simp; omega)) rfl fun u10 => ?_)
      refine go tbv72ok 8 rfl rfl ⟨(by omega), trivial⟩ ?_
      refine next ⟨(k + 1), (out ++ [(gt l k)]), (u10)⟩ rfl rfl ⟨rfl, rfl, trivial⟩ ⟨rfl, trivial⟩ ?_ ?_
      · (try simp only []); omega
      · exact ⟨by (try simp only []); omega, e4, (by (try simp only []); first | omega | (simp; done) | (simp; omega) | (simp only [List.length_append, List.length_cons, List.length_nil]; omega))⟩
    · have p11 := df h2
      have e12 := lstep (f := fun zz => l12_All_l0 zz  out) hp1_2 (dropN (by omega)) (l12_All_l0.eq_1 _)
      refine go tbv72ok 11 rfl rfl trivial ?_
      refine givec 0 rfl ?_
      refine go tbv72ok 1 rfl rfl trivial ?_
      exact rt1 rfl rfl (ple_of (fun r : (List Reply) => .sl Reply.pc r) e12 (ple rfl))
end Go.SW.V
set_option linter.unusedVariables false
set_option maxRecDepth 100000
set_option maxHeartbeats 4000000
namespace Go.SW.V
open Go.SW Go.Proofs
theorem cb13 : Callable Tryz.prog 13 := callable_of Tryz.func13 (by kernel_rfl) (by kernel_rfl)
theorem cb18 : Callable Tryz.prog 18 := callable_of Tryz.func18 (by kernel_rfl) (by kernel_rfl)
theorem cb64 : Callable Tryz.prog 64 := callable_of Tryz.func64 (by kernel_rfl) (by kernel_rfl)
def tbv73 : Tb := [(4, ⟨.bool, 1, 1, [.bool false]⟩),
  (5, ⟨.int .u8, 1, 1, [.int .u8 0]⟩),
  (9, ⟨.str, 1, 16, [.str []]⟩),
  (25, ⟨.int .u64, 1, 8, [.int .u64 0]⟩),
  (26, ⟨.slc 224, 1, 24, [.sl Pair.pc []]⟩),
  (28, ⟨.agg [(0, 1), (1, 1), (2, 1), (3, 1), (4, 1), (5, 1), (6, 1)], 7, 96, [.int .u64 0, .str [], .str [], .sl Pair.pc [], .str [], .int .u64 0, .int .u8 0]⟩),
  (30, ⟨.agg [(0, 1), (1, 1), (2, 1), (3, 1), (4, 1), (5, 1), (6, 7)], 13, 144, [.int .u8 0, .int .u8 0, .int .u64 0, .int .u64 0, .bool false, .str [], .int .u64 0, .str [], .str [], .sl Pair.pc [], .str [], .int .u64 0, .int .u8 0]⟩),
  (33, ⟨.agg [(0, 1), (1, 1), (2, 1), (3, 1), (4, 1), (5, 1), (6, 7)], 13, 144, [.int .u8 0, .int .u8 0, .int .u64 0, .int .u64 0, .bool false, .str [], .int .u64 0, .str [], .str [], .sl Pair.pc [], .str [], .int .u64 0, .int .u8 0]⟩),
  (37, ⟨.slc 33, 1, 24, [.sl Reply.pc []]⟩),
  (50, ⟨.agg [(0, 1), (1, 1), (2, 1)], 3, 24, [.int .u8 0, .int .u8 0, .str []]⟩)]
theorem tbv73ok : tbB Tryz.prog tbv73 = true := by kernel_rfl
theorem r12_Bytes_ok (l : List Reply) (hl : l.length ≤ 1000 ∧ ∀ r ∈ l, SRt r) : Fn Tryz.prog gb 13 [.sl Reply.pc l] (.str (r12_Bytes l)) := by
  refine fn_cw tbv73ok Tryz.func13 rfl Tryz.ntmps13 rfl cb13 rfl rfl fun w N H hG => ?_
  have l_l : l.length ≤ 140737488355328 := w.1.1
  obtain ⟨hl1, hl2⟩ := id hl
  have e0 := r12_Bytes.eq_1 l
  refine go tbv73ok 19 rfl rfl trivial ?_
  refine loop (ι := Nat × Bs) [2, 6, 7] [] (fun ⟨k, s⟩ => [(8, .int .i64 (k : Int)), (3, .str s)]) (fun ⟨k, s⟩ => []) (fun ⟨k, s⟩ => k ≤ l.length ∧ r12_Bytes l = r12_Bytes_l0 (l.drop k)  s ∧ s.length ≤ 30000000 * k) (fun ⟨k, s⟩ => l.length - k) ⟨0, []⟩ ⟨rfl, rfl, trivial⟩ trivial ?_ ?_
  · exact ⟨Nat.zero_le _, e0, (by simp)⟩
  · rintro ⟨k, s⟩ ⟨hp1_1, hp1_2, hp1_3⟩
    refine go tbv73ok 6 rfl rfl trivial ?_
    refine cnd rfl (fun h2 => ?_) (fun h2 => ?_)
    · have p3 := dt h2
      have e4 := lstep (f := fun zz => r12_Bytes_l0 zz  s) hp1_2 (dropG (by omega)) (r12_Bytes_l0.eq_2 _ _ _)
      have hc5 := getG (xs := l) (k := k) (by omega)
      have hs_hc5 := hl2 (gt l k) (List.mem_of_getElem? hc5)
      have hq_hc5 := Reply.kd9 (w.1.2 (gt l k) (List.mem_of_getElem? hc5))
      refine go tbv73ok 6 rfl rfl trivial ?_
      refine q1 (qidx tbv73ok k rfl rfl rfl hc5 rfl rfl rfl rfl) rfl fun w6 => ?_
      refine go tbv73ok 1 rfl rfl trivial ?_
      refine ef (alloc tbv73ok 0 rfl rfl rfl rfl fun b7 => ?_)
      refine ef (storeA tbv73ok rfl rfl rfl rfl rfl rfl rfl rfl rfl rfl ?_)
      refine go tbv73ok 5 rfl rfl trivial ?_
      refine call (r12_Check _) rfl rfl fun w8 => ?_
      have hrl := replyE_len (gt l k)
      refine go tbv73ok 3 rfl rfl trivial ?_
      refine cnd rfl (fun h9 => ?_) (fun h9 => ?_)
      · have p10 := dt h9
        have e11 := e4.trans (condT h9)
        refine go tbv73ok 3 rfl rfl trivial ?_
        refine callv (r12_Frame (gt l k)) (fun r : Frame => .agg (Frame.pc r)) (r12_Frame_ok _ (by assumption)) rfl rfl fun r hr12 w13 => ?_
        have e14 := e11.trans (lt_eq hr12)
        have hA14 := r12f_e (f := r) (by assumption) (by assumption) (by omega)
        (try rw [← hr12] at hA14)
        refine call (r7_Bytes _ (by first | omega | (simp; omega))) rfl rfl fun w16 => ?_
        have := frB_len r
        refine go tbv73ok 9 rfl rfl ⟨(by (try simp only [List.length_append, List.length_cons, List.length_nil]); omega), (by omega), trivial⟩ ?_
        refine next ⟨(k + 1), (s ++ (frB r))⟩ rfl rfl ⟨rfl, rfl, trivial⟩ trivial ?_ ?_
        · (try simp only []); omega
        · exact ⟨by (try simp only []); omega, e14, (by (try simp only [List.length_append]); omega)⟩
      · have p17 := df h9
        have e18 := e4.trans (condF h9)
        refine go tbv73ok 7 rfl rfl ⟨(by omega), trivial⟩ ?_
        refine next ⟨(k + 1), s⟩ rfl rfl ⟨rfl, rfl, trivial⟩ trivial ?_ ?_
        · (try simp only []); omega
        · exact ⟨by (try simp only []); omega, e18, (by (try simp only [List.length_append]); omega)⟩
    · have p19 := df h2
      have e20 := lstep (f := fun zz => r12_Bytes_l0 zz  s) hp1_2 (dropN (by omega)) (r12_Bytes_l0.eq_1 _)
      refine go tbv73ok 12 rfl rfl trivial ?_
      exact rt1 rfl rfl (ple_of (fun r : Bs => .str r) e20 (ple rfl))
theorem reply_Of_ok (f : Frame) : Fn Tryz.prog gb 18 [.agg (Frame.pc f)] (.tup [.agg (Reply.pc ((reply_Of f).1)), .int .i64 ((reply_Of f).2)]) := by
  refine fn_cw tbv73ok Tryz.func18 rfl Tryz.ntmps18 rfl cb18 rfl rfl fun w N H hG => ?_
  have f_channel_r : 0 ≤ f.channel ∧ f.channel ≤ 255 := w.1.1
  have f_kind_r : 0 ≤ f.kind ∧ f.kind ≤ 255 := w.1.2.1
  have f_body_l : f.body.length ≤ 9223372036854775807 := w.1.2.2.1
  have e0 := reply_Of.eq_1 f
  refine go tbv73ok 2 rfl rfl trivial ?_
  refine ef (boxA 0 rfl rfl rfl fun b1 => ?_)
  refine ef (alloc tbv73ok 1 rfl rfl rfl rfl fun b2 => ?_)
  refine go tbv73ok 16 rfl rfl ⟨(fun hc => hc), (fun hc => hc), rfl, rfl, trivial⟩ ?_
  refine cnd rfl (fun h3 => ?_) (fun h3 => ?_)
  · have e4 := e0.trans (condT h3)
    refine go tbv73ok 3 rfl rfl trivial ?_
    refine ef (storeA tbv73ok rfl rfl rfl rfl rfl rfl rfl rfl rfl rfl ?_)
    refine go tbv73ok 5 rfl rfl trivial ?_
    exact rt2 rfl rfl (ple_of (fun r : Reply × Int => .tup [.agg (Reply.pc r.1), .int .i64 r.2]) e4 (ple rfl))
  · have h5 := orl h3
    have p6 := df h5
    have h7 := orr h3
    have p8 := df h7
    have e9 := e0.trans (condF h3)
    have := wr_u8 (f.kind - 64)
    refine go tbv73ok 10 rfl rfl trivial ?_
    refine ef (alloc tbv73ok 2 rfl rfl rfl rfl fun b10 => ?_)
    refine ef (storeA tbv73ok rfl rfl rfl rfl rfl rfl rfl rfl rfl rfl ?_)
    refine go tbv73ok 6 rfl rfl trivial ?_
    refine ef (ecallb 3 (octet_New _) rfl rfl fun w11 b12 => ?_)
    refine go tbv73ok 6 rfl rfl trivial ?_
    refine hinl [] tbv73ok Tryz.func64 rfl Tryz.ntmps64 cb64 rfl rfl rfl rfl fun Hc13 hHc13 => ?_
    refine go tbv73ok 16 rfl rfl trivial ?_
    refine cnd rfl (fun h14 => ?_) (fun h14 => ?_)
    · have p15 := dt h14
      have e16 := e9.trans (condT h14)
      refine go tbv73ok 3 rfl rfl trivial ?_
      refine ef (ecallm (in_Text (⟨f.body, 0⟩) _) rfl rfl rfl rfl rfl ?_)
      generalize hr18 : inText (⟨f.body, 0⟩) 16 = r
      intro w17 w17p
      have e19 := e16.trans (lt_eq hr18.symm)
      have := inText_len (⟨f.body, 0⟩) 16
      (try simp only [hr18] at *)
      refine go tbv73ok 2 rfl rfl trivial ?_
      refine ef (store1 tbv73ok rfl rfl rfl rfl rfl rfl rfl rfl rfl ?_)
      refine go tbv73ok 13 rfl rfl trivial ?_
      refine cndT rfl (by rw [(fd (by omega))] <;> rfl) ?_
      refine go tbv73ok 2 rfl rfl trivial ?_
      refine inlr rfl rfl rfl trivial ?_
      refine go tbv73ok 5 rfl rfl trivial ?_
      refine ef (ecallm (in_End _) rfl rfl rfl rfl rfl fun w21 w21p => ?_)
      refine go tbv73ok 10 rfl rfl trivial ?_
      refine cnd rfl (fun h22 => ?_) (fun h22 => ?_)
      · have p23 := dt h22
        have e24 := e19.trans (condT h22)
        refine go tbv73ok 2 rfl rfl trivial ?_
        refine call (reply_Check (⟨f.channel, (IntKind.wrap .u8 (f.kind - 64)), 0, 0, false, r.1, (⟨0, [], [], [], [], 0, 0⟩ : Mail)⟩ : Reply)) rfl rfl fun w25 => ?_
        have hrl := replyE_len (⟨f.channel, (IntKind.wrap .u8 (f.kind - 64)), 0, 0, false, r.1, (⟨0, [], [], [], [], 0, 0⟩ : Mail)⟩ : Reply)
        refine go tbv73ok 10 rfl rfl trivial ?_
        refine cnd rfl (fun h26 => ?_) (fun h26 => ?_)
        · have h27 := not_t h26
          have p28 := df h27
          have e29 := e24.trans (condT h26)
          refine go tbv73ok 4 rfl rfl trivial ?_
          refine ef (storeA tbv73ok rfl rfl rfl rfl rfl rfl rfl rfl rfl rfl ?_)
          refine go tbv73ok 5 rfl rfl trivial ?_
          exact rt2 rfl rfl (ple_of (fun r : Reply × Int => .tup [.agg (Reply.pc r.1), .int .i64 r.2]) e29 (ple rfl))
        · have h30 := not_f h26
          have p31 := dt h30
          have e32 := e24.trans (condF h26)
          refine go tbv73ok 5 rfl rfl trivial ?_
          refine ef (storeA tbv73ok rfl rfl rfl rfl rfl rfl rfl rfl rfl rfl ?_)
          refine go tbv73ok 4 rfl rfl trivial ?_
          exact rt2 rfl rfl (ple_of (fun r : Reply × Int => .tup [.agg (Reply.pc r.1), .int .i64 r.2]) e32 (ple rfl))
      · have p33 := df h22
        have e34 := e19.trans (condF h22)
        refine go tbv73ok 9 rfl rfl trivial ?_
        refine cndT rfl (by rw [h22] <;> rfl) ?_
        refine go tbv73ok 4 rfl rfl trivial ?_
        refine ef (storeA tbv73ok rfl rfl rfl rfl rfl rfl rfl rfl rfl rfl ?_)
        refine go tbv73ok 5 rfl rfl trivial ?_
        exact rt2 rfl rfl (ple_of (fun r : Reply × Int => .tup [.agg (Reply.pc r.1), .int .i64 r.2]) e34 (ple rfl))
    · have p35 := df h14
      have e36 := e9.trans (condF h14)
      refine go tbv73ok 7 rfl rfl trivial ?_
      refine cnd rfl (fun h37 => ?_) (fun h37 => ?_)
      · have p38 := dt h37
        have e39 := e36.trans (condT h37)
        refine go tbv73ok 2 rfl rfl trivial ?_
        refine cndT rfl h37 ?_
        refine go tbv73ok 3 rfl rfl trivial ?_
        refine ef (ecallm (in_Num (⟨f.body, 0⟩) _) rfl rfl rfl rfl rfl ?_)
        generalize hr41 : inNum (⟨f.body, 0⟩) 8 = r1
        intro w40 w40p
        have e42 := e39.trans (lt_eq hr41.symm)
        have := inNum_r (⟨f.body, 0⟩) 8
        (try simp only [hr41] at *)
        refine go tbv73ok 2 rfl rfl trivial ?_
        refine ef (store1 tbv73ok rfl rfl rfl rfl rfl rfl rfl rfl rfl ?_)
        refine go tbv73ok 13 rfl rfl trivial ?_
        refine cndT rfl (by rw [(fd (by omega))] <;> rfl) ?_
        refine go tbv73ok 2 rfl rfl trivial ?_
        refine inlr rfl rfl rfl trivial ?_
        refine go tbv73ok 5 rfl rfl trivial ?_
        refine ef (ecallm (in_End _) rfl rfl rfl rfl rfl fun w44 w44p => ?_)
        refine go tbv73ok 10 rfl rfl trivial ?_
        refine cnd rfl (fun h45 => ?_) (fun h45 => ?_)
        · have p46 := dt h45
          have e47 := e42.trans (condT h45)
          refine go tbv73ok 2 rfl rfl trivial ?_
          refine call (reply_Check (⟨f.channel, (IntKind.wrap .u8 (f.kind - 64)), r1.1, 0, false, [], (⟨0, [], [], [], [], 0, 0⟩ : Mail)⟩ : Reply)) rfl rfl fun w48 => ?_
          have hrl := replyE_len (⟨f.channel, (IntKind.wrap .u8 (f.kind - 64)), r1.1, 0, false, [], (⟨0, [], [], [], [], 0, 0⟩ : Mail)⟩ : Reply)
          refine go tbv73ok 10 rfl rfl trivial ?_
          refine cnd rfl (fun h49 => ?_) (fun h49 => ?_)
          · have h50 := not_t h49
            have p51 := df h50
            have e52 := e47.trans (condT h49)
            refine go tbv73ok 4 rfl rfl trivial ?_
            refine ef (storeA tbv73ok rfl rfl rfl rfl rfl rfl rfl rfl rfl rfl ?_)
            refine go tbv73ok 5 rfl rfl trivial ?_
            exact rt2 rfl rfl (ple_of (fun r : Reply × Int => .tup [.agg (Reply.pc r.1), .int .i64 r.2]) e52 (ple rfl))
          · have h53 := not_f h49
            have p54 := dt h53
            have e55 := e47.trans (condF h49)
            refine go tbv73ok 5 rfl rfl trivial ?_
            refine ef (storeA tbv73ok rfl rfl rfl rfl rfl rfl rfl rfl rfl rfl ?_)
            refine go tbv73ok 4 rfl rfl trivial ?_
            exact rt2 rfl rfl (ple_of (fun r : Reply × Int => .tup [.agg (Reply.pc r.1), .int .i64 r.2]) e55 (ple rfl))
        · have p56 := df h45
          have e57 := e42.trans (condF h45)
          refine go tbv73ok 9 rfl rfl trivial ?_
          refine cndT rfl (by rw [h45] <;> rfl) ?_
          refine go tbv73ok 4 rfl rfl trivial ?_
          refine ef (storeA tbv73ok rfl rfl rfl rfl rfl rfl rfl rfl rfl rfl ?_)
          refine go tbv73ok 5 rfl rfl trivial ?_
          exact rt2 rfl rfl (ple_of (fun r : Reply × Int => .tup [.agg (Reply.pc r.1), .int .i64 r.2]) e57 (ple rfl))
      · have p58 := df h37
        have e59 := e36.trans (condF h37)
        refine go tbv73ok 6 rfl rfl trivial ?_
        refine cnd rfl (fun h60 => ?_) (fun h60 => ?_)
        · have p61 := dt h60
          have e62 := e59.trans (condT h60)
          refine go tbv73ok 2 rfl rfl trivial ?_
          refine cndT rfl h60 ?_
          refine go tbv73ok 3 rfl rfl trivial ?_
          refine ef (ecallm (in_Num (⟨f.body, 0⟩) _) rfl rfl rfl rfl rfl ?_)
          generalize hr64 : inNum (⟨f.body, 0⟩) 8 = r2
          intro w63 w63p
          have e65 := e62.trans (lt_eq hr64.symm)
          have := inNum_r (⟨f.body, 0⟩) 8
          (try simp only [hr64] at *)
          refine go tbv73ok 2 rfl rfl trivial ?_
          refine ef (store1 tbv73ok rfl rfl rfl rfl rfl rfl rfl rfl rfl ?_)
          refine go tbv73ok 13 rfl rfl trivial ?_
          refine cndT rfl (by rw [(fd (by omega))] <;> rfl) ?_
          refine go tbv73ok 2 rfl rfl trivial ?_
          refine inlr rfl rfl rfl trivial ?_
          refine go tbv73ok 5 rfl rfl trivial ?_
          refine ef (ecallm (in_End _) rfl rfl rfl rfl rfl fun w67 w67p => ?_)
          refine go tbv73ok 10 rfl rfl trivial ?_
          refine cnd rfl (fun h68 => ?_) (fun h68 => ?_)
          · have p69 := dt h68
            have e70 := e65.trans (condT h68)
            refine go tbv73ok 2 rfl rfl trivial ?_
            refine call (reply_Check (⟨f.channel, (IntKind.wrap .u8 (f.kind - 64)), r2.1, 0, false, [], (⟨0, [], [], [], [], 0, 0⟩ : Mail)⟩ : Reply)) rfl rfl fun w71 => ?_
            have hrl := replyE_len (⟨f.channel, (IntKind.wrap .u8 (f.kind - 64)), r2.1, 0, false, [], (⟨0, [], [], [], [], 0, 0⟩ : Mail)⟩ : Reply)
            refine go tbv73ok 10 rfl rfl trivial ?_
            refine cnd rfl (fun h72 => ?_) (fun h72 => ?_)
            · have h73 := not_t h72
              have p74 := df h73
              have e75 := e70.trans (condT h72)
              refine go tbv73ok 4 rfl rfl trivial ?_
              refine ef (storeA tbv73ok rfl rfl rfl rfl rfl rfl rfl rfl rfl rfl ?_)
              refine go tbv73ok 5 rfl rfl trivial ?_
              exact rt2 rfl rfl (ple_of (fun r : Reply × Int => .tup [.agg (Reply.pc r.1), .int .i64 r.2]) e75 (ple rfl))
            · have h76 := not_f h72
              have p77 := dt h76
              have e78 := e70.trans (condF h72)
              refine go tbv73ok 5 rfl rfl trivial ?_
              refine ef (storeA tbv73ok rfl rfl rfl rfl rfl rfl rfl rfl rfl rfl ?_)
              refine go tbv73ok 4 rfl rfl trivial ?_
              exact rt2 rfl rfl (ple_of (fun r : Reply × Int => .tup [.agg (Reply.pc r.1), .int .i64 r.2]) e78 (ple rfl))
          · have p79 := df h68
            have e80 := e65.trans (condF h68)
            refine go tbv73ok 9 rfl rfl trivial ?_
            refine cndT rfl (by rw [h68] <;> rfl) ?_
            refine go tbv73ok 4 rfl rfl trivial ?_
            refine ef (storeA tbv73ok rfl rfl rfl rfl rfl rfl rfl rfl rfl rfl ?_)
            refine go tbv73ok 5 rfl rfl trivial ?_
            exact rt2 rfl rfl (ple_of (fun r : Reply × Int => .tup [.agg (Reply.pc r.1), .int .i64 r.2]) e80 (ple rfl))
        · have p81 := df h60
          have e82 := e59.trans (condF h60)
          refine go tbv73ok 5 rfl rfl trivial ?_
          refine cnd rfl (fun h83 => ?_) (fun h83 => ?_)
          · have p84 := dt h83
            have e85 := e82.trans (condT h83)
            refine go tbv73ok 3 rfl rfl trivial ?_
            refine ef (ecallm (in_Num (⟨f.body, 0⟩) _) rfl rfl rfl rfl rfl ?_)
            generalize hr87 : inNum (⟨f.body, 0⟩) 8 = r3
            intro w86 w86p
            have e88 := e85.trans (lt_eq hr87.symm)
            have := inNum_r (⟨f.body, 0⟩) 8
            (try simp only [hr87] at *)
            refine go tbv73ok 2 rfl rfl trivial ?_
            refine ef (store1 tbv73ok rfl rfl rfl rfl rfl rfl rfl rfl rfl ?_)
            refine go tbv73ok 13 rfl rfl trivial ?_
            refine cndT rfl (by rw [(fd (by omega))] <;> rfl) ?_
            refine go tbv73ok 2 rfl rfl trivial ?_
            refine inlr rfl rfl rfl trivial ?_
            refine go tbv73ok 5 rfl rfl trivial ?_
            refine ef (ecallm (in_End _) rfl rfl rfl rfl rfl fun w90 w90p => ?_)
            refine go tbv73ok 10 rfl rfl trivial ?_
            refine cnd rfl (fun h91 => ?_) (fun h91 => ?_)
            · have p92 := dt h91
              have e93 := e88.trans (condT h91)
              refine go tbv73ok 2 rfl rfl trivial ?_
              refine call (reply_Check (⟨f.channel, (IntKind.wrap .u8 (f.kind - 64)), r3.1, 0, false, [], (⟨0, [], [], [], [], 0, 0⟩ : Mail)⟩ : Reply)) rfl rfl fun w94 => ?_
              have hrl := replyE_len (⟨f.channel, (IntKind.wrap .u8 (f.kind - 64)), r3.1, 0, false, [], (⟨0, [], [], [], [], 0, 0⟩ : Mail)⟩ : Reply)
              refine go tbv73ok 10 rfl rfl trivial ?_
              refine cnd rfl (fun h95 => ?_) (fun h95 => ?_)
              · have h96 := not_t h95
                have p97 := df h96
                have e98 := e93.trans (condT h95)
                refine go tbv73ok 4 rfl rfl trivial ?_
                refine ef (storeA tbv73ok rfl rfl rfl rfl rfl rfl rfl rfl rfl rfl ?_)
                refine go tbv73ok 5 rfl rfl trivial ?_
                exact rt2 rfl rfl (ple_of (fun r : Reply × Int => .tup [.agg (Reply.pc r.1), .int .i64 r.2]) e98 (ple rfl))
              · have h99 := not_f h95
                have p100 := dt h99
                have e101 := e93.trans (condF h95)
                refine go tbv73ok 5 rfl rfl trivial ?_
                refine ef (storeA tbv73ok rfl rfl rfl rfl rfl rfl rfl rfl rfl rfl ?_)
                refine go tbv73ok 4 rfl rfl trivial ?_
                exact rt2 rfl rfl (ple_of (fun r : Reply × Int => .tup [.agg (Reply.pc r.1), .int .i64 r.2]) e101 (ple rfl))
            · have p102 := df h91
              have e103 := e88.trans (condF h91)
              refine go tbv73ok 9 rfl rfl trivial ?_
              refine cndT rfl (by rw [h91] <;> rfl) ?_
              refine go tbv73ok 4 rfl rfl trivial ?_
              refine ef (storeA tbv73ok rfl rfl rfl rfl rfl rfl rfl rfl rfl rfl ?_)
              refine go tbv73ok 5 rfl rfl trivial ?_
              exact rt2 rfl rfl (ple_of (fun r : Reply × Int => .tup [.agg (Reply.pc r.1), .int .i64 r.2]) e103 (ple rfl))
          · have p104 := df h83
            have e105 := e82.trans (condF h83)
            refine go tbv73ok 7 rfl rfl trivial ?_
            refine cnd rfl (fun h106 => ?_) (fun h106 => ?_)
            · have p107 := dt h106
              have e108 := e105.trans (condT h106)
              refine go tbv73ok 2 rfl rfl trivial ?_
              refine cndT rfl h106 ?_
              refine go tbv73ok 4 rfl rfl trivial ?_
              refine ef (ecallm (in_Num (⟨f.body, 0⟩) _) rfl rfl rfl rfl rfl ?_)
              generalize hr110 : inNum (⟨f.body, 0⟩) 8 = r4
              intro w109 w109p
              have e111 := e108.trans (lt_eq hr110.symm)
              have := inNum_r (⟨f.body, 0⟩) 8
              (try simp only [hr110] at *)
              refine go tbv73ok 1 rfl rfl trivial ?_
              refine ef (ecallm (in_Num _ _) rfl rfl rfl rfl rfl ?_)
              generalize hr114 : inNum r4.2 8 = r5
              intro w113 w113p
              have e115 := e111.trans (lt_eq hr114.symm)
              have := inNum_r r4.2 8
              (try simp only [hr114] at *)
              refine go tbv73ok 2 rfl rfl trivial ?_
              refine ef (store1 tbv73ok rfl rfl rfl rfl rfl rfl rfl rfl rfl ?_)
              refine go tbv73ok 2 rfl rfl trivial ?_
              refine ef (store1 tbv73ok rfl rfl rfl rfl rfl rfl rfl rfl rfl ?_)
              refine go tbv73ok 13 rfl rfl trivial ?_
              refine cndF rfl (by rw [h106] <;> rfl) ?_
              refine go tbv73ok 5 rfl rfl trivial ?_
              refine ef (ecallm (in_Num _ _) rfl rfl rfl rfl rfl ?_)
              generalize hr118 : inNum r5.2 1 = r6
              intro w117 w117p
              have e119 := e115.trans (lt_eq hr118.symm)
              have := inNum_r r5.2 1
              (try simp only [hr118] at *)
              refine go tbv73ok 11 rfl rfl trivial ?_
              refine ef (store1 tbv73ok rfl rfl rfl rfl rfl rfl rfl rfl rfl ?_)
              refine go tbv73ok 8 rfl rfl trivial ?_
              refine cnd rfl (fun h121 => ?_) (fun h121 => ?_)
              · have p122 := dt h121
                have e123 := e119.trans (condT h121)
                refine go tbv73ok 2 rfl rfl trivial ?_
                refine ef (ecallm (in_Fail _ _) rfl rfl rfl rfl rfl fun w124 w124p => ?_)
                refine go tbv73ok 6 rfl rfl trivial ?_
                refine ef (ecallm (in_Text _ _) rfl rfl rfl rfl rfl ?_)
                generalize hr126 : inText (inFail r6.2 4) 16 = r7
                intro w125 w125p
                have e127 := e123.trans (lt_eq hr126.symm)
                have := inText_len (inFail r6.2 4) 16
                (try simp only [hr126] at *)
                refine go tbv73ok 3 rfl rfl trivial ?_
                refine ef (store1 tbv73ok rfl rfl rfl rfl rfl rfl rfl rfl rfl ?_)
                refine go tbv73ok 6 rfl rfl trivial ?_
                refine ef (ecallm (in_Text _ _) rfl rfl rfl rfl rfl ?_)
                generalize hr130 : inText r7.2 64 = r8
                intro w129 w129p
                have e131 := e127.trans (lt_eq hr130.symm)
                have := inText_len r7.2 64
                (try simp only [hr130] at *)
                refine go tbv73ok 3 rfl rfl trivial ?_
                refine ef (store1 tbv73ok rfl rfl rfl rfl rfl rfl rfl rfl rfl ?_)
                refine go tbv73ok 6 rfl rfl trivial ?_
                refine ef (ecallm (head_Read _) rfl rfl rfl rfl rfl ?_)
                generalize hr134 : headRead r8.2 = r9
                intro w133 w133p
                have e135 := e131.trans (lt_eq hr134.symm)
                have := headRead_len r8.2
                (try simp only [hr134] at *)
                refine go tbv73ok 3 rfl rfl trivial ?_
                refine ef (store1 tbv73ok rfl rfl rfl rfl rfl rfl rfl rfl rfl ?_)
                refine go tbv73ok 5 rfl rfl trivial ?_
                refine ef (ecallm (in_Text _ _) rfl rfl rfl rfl rfl ?_)
                generalize hr138 : inText r9.2 256 = r10
                intro w137 w137p
                have e139 := e135.trans (lt_eq hr138.symm)
                have := inText_len r9.2 256
                (try simp only [hr138] at *)
                refine go tbv73ok 3 rfl rfl trivial ?_
                refine ef (store1 tbv73ok rfl rfl rfl rfl rfl rfl rfl rfl rfl ?_)
                refine go tbv73ok 1 rfl rfl trivial ?_
                refine inln rfl rfl rfl trivial ?_
                refine go tbv73ok 5 rfl rfl trivial ?_
                refine ef (ecallm (in_End _) rfl rfl rfl rfl rfl fun w141 w141p => ?_)
                refine go tbv73ok 10 rfl rfl trivial ?_
                refine cnd rfl (fun h142 => ?_) (fun h142 => ?_)
                · have p143 := dt h142
                  have e144 := e139.trans (condT h142)
                  refine go tbv73ok 2 rfl rfl trivial ?_
                  refine call (reply_Check (⟨f.channel, (IntKind.wrap .u8 (f.kind - 64)), r4.1, r5.1, decide (r6.1 = 1), [], (⟨0, r7.1, r8.1, r9.1, r10.1, 0, 0⟩ : Mail)⟩ : Reply)) rfl rfl fun w145 => ?_
                  have hrl := replyE_len (⟨f.channel, (IntKind.wrap .u8 (f.kind - 64)), r4.1, r5.1, decide (r6.1 = 1), [], (⟨0, r7.1, r8.1, r9.1, r10.1, 0, 0⟩ : Mail)⟩ : Reply)
                  refine go tbv73ok 10 rfl rfl trivial ?_
                  refine cnd rfl (fun h146 => ?_) (fun h146 => ?_)
                  · have h147 := not_t h146
                    have p148 := df h147
                    have e149 := e144.trans (condT h146)
                    refine go tbv73ok 4 rfl rfl trivial ?_
                    refine ef (storeA tbv73ok rfl rfl rfl rfl rfl rfl rfl rfl rfl rfl ?_)
                    refine go tbv73ok 5 rfl rfl trivial ?_
                    exact rt2 rfl rfl (ple_of (fun r : Reply × Int => .tup [.agg (Reply.pc r.1), .int .i64 r.2]) e149 (ple rfl))
                  · have h150 := not_f h146
                    have p151 := dt h150
                    have e152 := e144.trans (condF h146)
                    refine go tbv73ok 5 rfl rfl trivial ?_
                    refine ef (storeA tbv73ok rfl rfl rfl rfl rfl rfl rfl rfl rfl rfl ?_)
                    refine go tbv73ok 4 rfl rfl trivial ?_
                    exact rt2 rfl rfl (ple_of (fun r : Reply × Int => .tup [.agg (Reply.pc r.1), .int .i64 r.2]) e152 (ple rfl))
                · have p153 := df h142
                  have e154 := e139.trans (condF h142)
                  refine go tbv73ok 9 rfl rfl trivial ?_
                  refine cndT rfl (by rw [h142] <;> rfl) ?_
                  refine go tbv73ok 4 rfl rfl trivial ?_
                  refine ef (storeA tbv73ok rfl rfl rfl rfl rfl rfl rfl rfl rfl rfl ?_)
                  refine go tbv73ok 5 rfl rfl trivial ?_
                  exact rt2 rfl rfl (ple_of (fun r : Reply × Int => .tup [.agg (Reply.pc r.1), .int .i64 r.2]) e154 (ple rfl))
              · have p155 := df h121
                have e156 := e119.trans (condF h121)
                refine go tbv73ok 6 rfl rfl trivial ?_
                refine ef (ecallm (in_Text _ _) rfl rfl rfl rfl rfl ?_)
                generalize hr158 : inText r6.2 16 = r11
                intro w157 w157p
                have e159 := e156.trans (lt_eq hr158.symm)
                have := inText_len r6.2 16
                (try simp only [hr158] at *)
                refine go tbv73ok 3 rfl rfl trivial ?_
                refine ef (store1 tbv73ok rfl rfl rfl rfl rfl rfl rfl rfl rfl ?_)
                refine go tbv73ok 6 rfl rfl trivial ?_
                refine ef (ecallm (in_Text _ _) rfl rfl rfl rfl rfl ?_)
                generalize hr162 : inText r11.2 64 = r12
                intro w161 w161p
                have e163 := e159.trans (lt_eq hr162.symm)
                have := inText_len r11.2 64
                (try simp only [hr162] at *)
                refine go tbv73ok 3 rfl rfl trivial ?_
                refine ef (store1 tbv73ok rfl rfl rfl rfl rfl rfl rfl rfl rfl ?_)
                refine go tbv73ok 6 rfl rfl trivial ?_
                refine ef (ecallm (head_Read _) rfl rfl rfl rfl rfl ?_)
                generalize hr166 : headRead r12.2 = r13
                intro w165 w165p
                have e167 := e163.trans (lt_eq hr166.symm)
                have := headRead_len r12.2
                (try simp only [hr166] at *)
                refine go tbv73ok 3 rfl rfl trivial ?_
                refine ef (store1 tbv73ok rfl rfl rfl rfl rfl rfl rfl rfl rfl ?_)
                refine go tbv73ok 5 rfl rfl trivial ?_
                refine ef (ecallm (in_Text _ _) rfl rfl rfl rfl rfl ?_)
                generalize hr170 : inText r13.2 256 = r14
                intro w169 w169p
                have e171 := e167.trans (lt_eq hr170.symm)
                have := inText_len r13.2 256
                (try simp only [hr170] at *)
                refine go tbv73ok 3 rfl rfl trivial ?_
                refine ef (store1 tbv73ok rfl rfl rfl rfl rfl rfl rfl rfl rfl ?_)
                refine go tbv73ok 1 rfl rfl trivial ?_
                refine inln rfl rfl rfl trivial ?_
                refine go tbv73ok 5 rfl rfl trivial ?_
                refine ef (ecallm (in_End _) rfl rfl rfl rfl rfl fun w173 w173p => ?_)
                refine go tbv73ok 10 rfl rfl trivial ?_
                refine cnd rfl (fun h174 => ?_) (fun h174 => ?_)
                · have p175 := dt h174
                  have e176 := e171.trans (condT h174)
                  refine go tbv73ok 2 rfl rfl trivial ?_
                  refine call (reply_Check (⟨f.channel, (IntKind.wrap .u8 (f.kind - 64)), r4.1, r5.1, decide (r6.1 = 1), [], (⟨0, r11.1, r12.1, r13.1, r14.1, 0, 0⟩ : Mail)⟩ : Reply)) rfl rfl fun w177 => ?_
                  have hrl := replyE_len (⟨f.channel, (IntKind.wrap .u8 (f.kind - 64)), r4.1, r5.1, decide (r6.1 = 1), [], (⟨0, r11.1, r12.1, r13.1, r14.1, 0, 0⟩ : Mail)⟩ : Reply)
                  refine go tbv73ok 10 rfl rfl trivial ?_
                  refine cnd rfl (fun h178 => ?_) (fun h178 => ?_)
                  · have h179 := not_t h178
                    have p180 := df h179
                    have e181 := e176.trans (condT h178)
                    refine go tbv73ok 4 rfl rfl trivial ?_
                    refine ef (storeA tbv73ok rfl rfl rfl rfl rfl rfl rfl rfl rfl rfl ?_)
                    refine go tbv73ok 5 rfl rfl trivial ?_
                    exact rt2 rfl rfl (ple_of (fun r : Reply × Int => .tup [.agg (Reply.pc r.1), .int .i64 r.2]) e181 (ple rfl))
                  · have h182 := not_f h178
                    have p183 := dt h182
                    have e184 := e176.trans (condF h178)
                    refine go tbv73ok 5 rfl rfl trivial ?_
                    refine ef (storeA tbv73ok rfl rfl rfl rfl rfl rfl rfl rfl rfl rfl ?_)
                    refine go tbv73ok 4 rfl rfl trivial ?_
                    exact rt2 rfl rfl (ple_of (fun r : Reply × Int => .tup [.agg (Reply.pc r.1), .int .i64 r.2]) e184 (ple rfl))
                · have p185 := df h174
                  have e186 := e171.trans (condF h174)
                  refine go tbv73ok 9 rfl rfl trivial ?_
                  refine cndT rfl (by rw [h174] <;> rfl) ?_
                  refine go tbv73ok 4 rfl rfl trivial ?_
                  refine ef (storeA tbv73ok rfl rfl rfl rfl rfl rfl rfl rfl rfl rfl ?_)
                  refine go tbv73ok 5 rfl rfl trivial ?_
                  exact rt2 rfl rfl (ple_of (fun r : Reply × Int => .tup [.agg (Reply.pc r.1), .int .i64 r.2]) e186 (ple rfl))
            · have p187 := df h106
              have e188 := e105.trans (condF h106)
              refine go tbv73ok 5 rfl rfl trivial ?_
              refine cnd rfl (fun h189 => ?_) (fun h189 => ?_)
              · have p190 := dt h189
                have e191 := e188.trans (condT h189)
                refine go tbv73ok 4 rfl rfl trivial ?_
                refine ef (ecallm (in_Num (⟨f.body, 0⟩) _) rfl rfl rfl rfl rfl ?_)
                generalize hr193 : inNum (⟨f.body, 0⟩) 8 = r15
                intro w192 w192p
                have e194 := e191.trans (lt_eq hr193.symm)
                have := inNum_r (⟨f.body, 0⟩) 8
                (try simp only [hr193] at *)
                refine go tbv73ok 1 rfl rfl trivial ?_
                refine ef (ecallm (in_Num _ _) rfl rfl rfl rfl rfl ?_)
                generalize hr197 : inNum r15.2 8 = r16
                intro w196 w196p
                have e198 := e194.trans (lt_eq hr197.symm)
                have := inNum_r r15.2 8
                (try simp only [hr197] at *)
                refine go tbv73ok 2 rfl rfl trivial ?_
                refine ef (store1 tbv73ok rfl rfl rfl rfl rfl rfl rfl rfl rfl ?_)
                refine go tbv73ok 2 rfl rfl trivial ?_
                refine ef (store1 tbv73ok rfl rfl rfl rfl rfl rfl rfl rfl rfl ?_)
                refine go tbv73ok 13 rfl rfl trivial ?_
                refine cndT rfl (by rw [h106] <;> rfl) ?_
                refine go tbv73ok 2 rfl rfl trivial ?_
                refine inlr rfl rfl rfl trivial ?_
                refine go tbv73ok 5 rfl rfl trivial ?_
                refine ef (ecallm (in_End _) rfl rfl rfl rfl rfl fun w200 w200p => ?_)
                refine go tbv73ok 10 rfl rfl trivial ?_
                refine cnd rfl (fun h201 => ?_) (fun h201 => ?_)
                · have p202 := dt h201
                  have e203 := e198.trans (condT h201)
                  refine go tbv73ok 2 rfl rfl trivial ?_
                  refine call (reply_Check (⟨f.channel, (IntKind.wrap .u8 (f.kind - 64)), r15.1, r16.1, false, [], (⟨0, [], [], [], [], 0, 0⟩ : Mail)⟩ : Reply)) rfl rfl fun w204 => ?_
                  have hrl := replyE_len (⟨f.channel, (IntKind.wrap .u8 (f.kind - 64)), r15.1, r16.1, false, [], (⟨0, [], [], [], [], 0, 0⟩ : Mail)⟩ : Reply)
                  refine go tbv73ok 10 rfl rfl trivial ?_
                  refine cnd rfl (fun h205 => ?_) (fun h205 => ?_)
                  · have h206 := not_t h205
                    have p207 := df h206
                    have e208 := e203.trans (condT h205)
                    refine go tbv73ok 4 rfl rfl trivial ?_
                    refine ef (storeA tbv73ok rfl rfl rfl rfl rfl rfl rfl rfl rfl rfl ?_)
                    refine go tbv73ok 5 rfl rfl trivial ?_
                    exact rt2 rfl rfl (ple_of (fun r : Reply × Int => .tup [.agg (Reply.pc r.1), .int .i64 r.2]) e208 (ple rfl))
                  · have h209 := not_f h205
                    have p210 := dt h209
                    have e211 := e203.trans (condF h205)
                    refine go tbv73ok 5 rfl rfl trivial ?_
                    refine ef (storeA tbv73ok rfl rfl rfl rfl rfl rfl rfl rfl rfl rfl ?_)
                    refine go tbv73ok 4 rfl rfl trivial ?_
                    exact rt2 rfl rfl (ple_of (fun r : Reply × Int => .tup [.agg (Reply.pc r.1), .int .i64 r.2]) e211 (ple rfl))
                · have p212 := df h201
                  have e213 := e198.trans (condF h201)
                  refine go tbv73ok 9 rfl rfl trivial ?_
                  refine cndT rfl (by rw [h201] <;> rfl) ?_
                  refine go tbv73ok 4 rfl rfl trivial ?_
                  refine ef (storeA tbv73ok rfl rfl rfl rfl rfl rfl rfl rfl rfl rfl ?_)
                  refine go tbv73ok 5 rfl rfl trivial ?_
                  exact rt2 rfl rfl (ple_of (fun r : Reply × Int => .tup [.agg (Reply.pc r.1), .int .i64 r.2]) e213 (ple rfl))
              · have p214 := df h189
                have e215 := e188.trans (condF h189)
                refine go tbv73ok 13 rfl rfl trivial ?_
                refine cndT rfl (by rw [h106] <;> rfl) ?_
                refine go tbv73ok 2 rfl rfl trivial ?_
                refine inlr rfl rfl rfl trivial ?_
                refine go tbv73ok 5 rfl rfl trivial ?_
                refine ef (ecallm (in_End (⟨f.body, 0⟩)) rfl rfl rfl rfl rfl fun w216 w216p => ?_)
                refine go tbv73ok 10 rfl rfl trivial ?_
                refine cnd rfl (fun h217 => ?_) (fun h217 => ?_)
                · have p218 := dt h217
                  have e219 := e215.trans (condT h217)
                  refine go tbv73ok 2 rfl rfl trivial ?_
                  refine call (reply_Check (⟨f.channel, (IntKind.wrap .u8 (f.kind - 64)), 0, 0, false, [], (⟨0, [], [], [], [], 0, 0⟩ : Mail)⟩ : Reply)) rfl rfl fun w220 => ?_
                  have hrl := replyE_len (⟨f.channel, (IntKind.wrap .u8 (f.kind - 64)), 0, 0, false, [], (⟨0, [], [], [], [], 0, 0⟩ : Mail)⟩ : Reply)
                  refine go tbv73ok 10 rfl rfl trivial ?_
                  refine cnd rfl (fun h221 => ?_) (fun h221 => ?_)
                  · have h222 := not_t h221
                    have p223 := df h222
                    have e224 := e219.trans (condT h221)
                    refine go tbv73ok 4 rfl rfl trivial ?_
                    refine ef (storeA tbv73ok rfl rfl rfl rfl rfl rfl rfl rfl rfl rfl ?_)
                    refine go tbv73ok 5 rfl rfl trivial ?_
                    exact rt2 rfl rfl (ple_of (fun r : Reply × Int => .tup [.agg (Reply.pc r.1), .int .i64 r.2]) e224 (ple rfl))
                  · have h225 := not_f h221
                    have p226 := dt h225
                    have e227 := e219.trans (condF h221)
                    refine go tbv73ok 5 rfl rfl trivial ?_
                    refine ef (storeA tbv73ok rfl rfl rfl rfl rfl rfl rfl rfl rfl rfl ?_)
                    refine go tbv73ok 4 rfl rfl trivial ?_
                    exact rt2 rfl rfl (ple_of (fun r : Reply × Int => .tup [.agg (Reply.pc r.1), .int .i64 r.2]) e227 (ple rfl))
                · have p228 := df h217
                  have e229 := e215.trans (condF h217)
                  refine go tbv73ok 9 rfl rfl trivial ?_
                  refine cndT rfl (by rw [h217] <;> rfl) ?_
                  refine go tbv73ok 4 rfl rfl trivial ?_
                  refine ef (storeA tbv73ok rfl rfl rfl rfl rfl rfl rfl rfl rfl rfl ?_)
                  refine go tbv73ok 5 rfl rfl trivial ?_
                  exact rt2 rfl rfl (ple_of (fun r : Reply × Int => .tup [.agg (Reply.pc r.1), .int .i64 r.2]) e229 (ple rfl))
end Go.SW.V
set_option linter.unusedVariables false
set_option maxRecDepth 100000
set_option maxHeartbeats 4000000
namespace Go.SW.V
open Go.SW Go.Proofs
theorem cb121 : Callable Tryz.prog 121 := callable_of Tryz.func121 (by kernel_rfl) (by kernel_rfl)
theorem cb50 : Callable Tryz.prog 50 := callable_of Tryz.func50 (by kernel_rfl) (by kernel_rfl)
theorem cb8 : Callable Tryz.prog 8 := callable_of Tryz.func8 (by kernel_rfl) (by kernel_rfl)
def tbv74 : Tb := [(5, ⟨.int .u8, 1, 1, [.int .u8 0]⟩),
  (9, ⟨.str, 1, 16, [.str []]⟩),
  (30, ⟨.agg [(0, 1), (1, 1), (2, 1), (3, 1), (4, 1), (5, 1), (6, 7)], 13, 144, [.int .u8 0, .int .u8 0, .int .u64 0, .int .u64 0, .bool false, .str [], .int .u64 0, .str [], .str [], .sl Pair.pc [], .str [], .int .u64 0, .int .u8 0]⟩),
  (41, ⟨.agg [(0, 1), (1, 1)], 2, 24, [.str [], .int .i64 0]⟩),
  (42, ⟨.slc 50, 1, 24, [.sl Frame.pc []]⟩),
  (50, ⟨.agg [(0, 1), (1, 1), (2, 1)], 3, 24, [.int .u8 0, .int .u8 0, .str []]⟩)]
theorem tbv74ok : tbB Tryz.prog tbv74 = true := by kernel_rfl
theorem l08_awake_ok : Fn Tryz.prog gb 121 [] (.bool (l08_awake)) := by
  refine fn_cw tbv74ok Tryz.func121 rfl Tryz.ntmps121 rfl cb121 rfl rfl fun w N H hG => ?_
  have e0 := l08_awake.eq_1
  refine go tbv74ok 8 rfl rfl trivial ?_
  refine call (frame_Bytes (⟨1, 2, [97, 98]⟩ : Frame)) rfl rfl fun w1 => ?_
  refine go tbv74ok 10 rfl rfl trivial ?_
  refine call l07_Awake rfl rfl fun w2 => ?_
  refine go tbv74ok 8 rfl rfl ⟨(fun hc => hc), (fun hc => hc), rfl, rfl, trivial⟩ ?_
  refine cnd rfl (fun h3 => ?_) (fun h3 => ?_)
  · have e4 := e0.trans (condT h3)
    refine go tbv74ok 7 rfl rfl trivial ?_
    exact rt1 rfl rfl (ple_of (fun r : Bool => .bool r) e4 (ple rfl))
  · have h5 := orl h3
    have h6 := not_f h5
    have h7 := orr h3
    have h8 := not_f h7
    have p9 := dt h8
    have e10 := e0.trans (condF h3)
    refine go tbv74ok 7 rfl rfl trivial ?_
    refine q1 (sshi tbv74ok 5 rfl rfl rfl rfl rfl (by omega)) rfl fun w11 => ?_
    refine go tbv74ok 1 rfl rfl ⟨(by first | omega | (simp <;> omega)), trivial⟩ ?_
    refine ef (ecallo 0 (feed_Take (⟨[], 0⟩ : Feed) _ (by first | omega | (simp; done) | (simp; omega) | (simp only [List.length_nil, List.length_take, List.length_drop]; omega) | decide +kernel)) rfl rfl fun u13 w12 => ?_)
    have hfd13 := feed_le (⟨[], 0⟩ : Feed) ((frameBytes (⟨1, 2, [97, 98]⟩ : Frame)) ++ ((frameBytes (⟨1, 2, [97, 98]⟩ : Frame)).take 5))
    (try simp only [List.length_nil, List.length_take, List.length_drop] at hfd13)
    refine go tbv74ok 3 rfl rfl trivial ?_
    refine ef (alloc tbv74ok 1 rfl rfl rfl rfl fun b15 => ?_)
    refine ef (storeA tbv74ok rfl rfl rfl rfl rfl rfl rfl rfl rfl rfl ?_)
    refine go tbv74ok 4 rfl rfl trivial ?_
    refine any [2, 3, 4, 5, 6, 7] 9 mixd rfl ?_
    refine gov tbv74ok [0, 1] 7 rfl (by kernel_rfl) rfl rfl trivial ?_
    refine vq 2 (sslo tbv74ok 5 rfl rfl rfl rfl rfl (by omega)) rfl (by kernel_rfl) rfl fun w16 => ?_
    refine ve 3 rfl (by kernel_rfl) rfl (ecallo 2 (feed_Take _ _ (by first | omega | (simp; done) | (simp; omega) | (simp only [List.length_nil, List.length_take, List.length_drop]; omega) | decide +kernel)) rfl rfl fun u18 w17 => ?_)
    have hfd18 := feed_le ((feedTake (⟨[], 0⟩ : Feed) ((frameBytes (⟨1, 2, [97, 98]⟩ : Frame)) ++ ((frameBytes (⟨1, 2, [97, 98]⟩ : Frame)).take 5))).1) ((frameBytes (⟨1, 2, [97, 98]⟩ : Frame)).drop 5)
    (try simp only [List.length_nil, List.length_take, List.length_drop] at hfd18)
    refine gov tbv74ok [4, 5, 6] 2 rfl (by kernel_rfl) rfl rfl trivial ?_
    refine vtp 7 rfl (by kernel_rfl) (by kernel_rfl) (storeA tbv74ok rfl rfl rfl rfl rfl rfl rfl rfl rfl rfl ?_)
    refine gov tbv74ok [8] 0 rfl (by kernel_rfl) rfl rfl trivial ?_
    refine vdone (by kernel_rfl) ?_
    refine go tbv74ok 4 rfl rfl trivial ?_
    refine so_osl (t := 34) 0 rfl rfl ?_
    refine go tbv74ok 3 rfl rfl trivial ?_
    refine bcase (decide ((((feedTake (⟨[], 0⟩ : Feed) ((frameBytes (⟨1, 2, [97, 98]⟩ : Frame)) ++ ((frameBytes (⟨1, 2, [97, 98]⟩ : Frame)).take 5))).2).length : Int) = 1)) (fun h20 => ?_) (fun h20 => ?_)
    · have p21 := dt h20
      have e22 := e10.trans (condT h20)
      refine so_rt (t := 36) (p' := .bool true) (ple (congrArg PV.bool h20)) rfl ?_
      refine so_rt (t := 37) (p' := .bool true) (ple (congrArg PV.bool h20)) rfl ?_
      refine ungd rfl rfl ?_
      refine go tbv74ok 1 rfl rfl trivial ?_
      refine ungd rfl rfl ?_
      refine so_osl (t := 38) 2 rfl rfl ?_
      refine go tbv74ok 1 rfl rfl trivial ?_
      refine ungd rfl rfl ?_
      refine go tbv74ok 3 rfl rfl trivial ?_
      refine bcase (decide ((((feedTake ((feedTake (⟨[], 0⟩ : Feed) ((frameBytes (⟨1, 2, [97, 98]⟩ : Frame)) ++ ((frameBytes (⟨1, 2, [97, 98]⟩ : Frame)).take 5))).1) ((frameBytes (⟨1, 2, [97, 98]⟩ : Frame)).drop 5)).2).length : Int) = 1)) (fun h23 => ?_) (fun h23 => ?_)
      · have p24 := dt h23
        have e25 := e22.trans (condT h23)
        refine so_rt (t := 40) (p' := .bool true) (ple (congrArg PV.bool h23)) rfl ?_
        refine so_rt (t := 41) (p' := .bool true) (ple (congrArg PV.bool h23)) rfl ?_
        refine so_rt (t := 42) (p' := .bool true) (ple (congrArg PV.bool h23)) rfl ?_
        refine ungd rfl rfl ?_
        refine go tbv74ok 1 rfl rfl trivial ?_
        refine ungd rfl rfl ?_
        refine so_osl (t := 43) 2 rfl rfl ?_
        refine so_osl (t := 33) 2 rfl rfl ?_
        refine so_osl (t := 5) 2 rfl rfl ?_
        refine give 2 rfl ?_
        have hc26 := getG (xs := (feedTake ((feedTake (⟨[], 0⟩ : Feed) ((frameBytes (⟨1, 2, [97, 98]⟩ : Frame)) ++ ((frameBytes (⟨1, 2, [97, 98]⟩ : Frame)).take 5))).1) ((frameBytes (⟨1, 2, [97, 98]⟩ : Frame)).drop 5)).2) (k := 0) (by omega)
        refine q1 (qidx tbv74ok 0 rfl rfl rfl hc26 rfl rfl rfl rfl) rfl fun w27 => ?_
        refine ungd rfl rfl ?_
        refine go tbv74ok 1 rfl rfl trivial ?_
        refine ungd rfl rfl ?_
        refine go tbv74ok 1 rfl rfl trivial ?_
        refine ungd rfl rfl ?_
        refine go tbv74ok 4 rfl rfl trivial ?_
        refine callg rfl (fun hc => (feed_Rest _)) rfl ⟨(fun hc => hc), trivial⟩ rfl rfl fun _ => ?_
        refine go tbv74ok 4 rfl rfl ⟨(fun hc => hc), rfl, rfl, trivial⟩ ?_
        refine callg rfl (fun hc => (feed_Err _)) rfl ⟨(fun hc => hc), trivial⟩ rfl rfl fun _ => ?_
        refine go tbv74ok 6 rfl rfl ⟨(fun hc => hc), rfl, rfl, trivial⟩ ?_
        exact rt1 rfl rfl (ple_of (fun r : Bool => .bool r) e25 (ple rfl))
      · have p28 := df h23
        have e29 := e22.trans (condF h23)
        refine so_rt (t := 40) (p' := .bool false) (ple (congrArg PV.bool h23)) rfl ?_
        refine so_rt (t := 41) (p' := .bool false) (ple (congrArg PV.bool h23)) rfl ?_
        refine so_rt (t := 42) (p' := .bool false) (ple (congrArg PV.bool h23)) rfl ?_
        refine ungs rfl rfl rfl ?_
        refine ungs rfl rfl rfl ?_
        refine ungs rfl rfl rfl ?_
        refine ungs rfl rfl rfl ?_
        refine ungs rfl rfl rfl ?_
        refine go tbv74ok 2 rfl rfl trivial ?_
        refine ungs rfl rfl rfl ?_
        refine ungs rfl rfl rfl ?_
        refine ungs rfl rfl rfl ?_
        refine go tbv74ok 2 rfl rfl trivial ?_
        refine ungs rfl rfl rfl ?_
        refine ungs rfl rfl rfl ?_
        refine ungs rfl rfl rfl ?_
        refine go tbv74ok 5 rfl rfl trivial ?_
        exact rt1 rfl rfl (ple_of (fun r : Bool => .bool r) e29 (ple rfl))
    · have p30 := df h20
      have e31 := e10.trans (condF h20)
      refine so_rt (t := 36) (p' := .bool false) (ple (congrArg PV.bool h20)) rfl ?_
      refine so_rt (t := 37) (p' := .bool false) (ple (congrArg PV.bool h20)) rfl ?_
      refine ungs rfl rfl rfl ?_
      refine ungs rfl rfl rfl ?_
      refine ungs rfl rfl rfl ?_
      refine go tbv74ok 2 rfl rfl trivial ?_
      refine ungs rfl rfl rfl ?_
      refine ungs rfl rfl rfl ?_
      refine ungs rfl rfl rfl ?_
      refine ungs rfl rfl rfl ?_
      refine ungs rfl rfl rfl ?_
      refine go tbv74ok 2 rfl rfl trivial ?_
      refine ungs rfl rfl rfl ?_
      refine ungs rfl rfl rfl ?_
      refine ungs rfl rfl rfl ?_
      refine go tbv74ok 2 rfl rfl trivial ?_
      refine ungs rfl rfl rfl ?_
      refine ungs rfl rfl rfl ?_
      refine ungs rfl rfl rfl ?_
      refine go tbv74ok 5 rfl rfl trivial ?_
      exact rt1 rfl rfl (ple_of (fun r : Bool => .bool r) e31 (ple rfl))
theorem l08_Awake_ok : Fn Tryz.prog gb 50 [] (.bool (l08_Awake)) := by
  refine fn_cw tbv74ok Tryz.func50 rfl Tryz.ntmps50 rfl cb50 rfl rfl fun w N H hG => ?_
  have e0 := l08_Awake.eq_1
  refine go tbv74ok 7 rfl rfl trivial ?_
  refine call l08_awake_ok rfl rfl fun w1 => ?_
  refine go tbv74ok 4 rfl rfl trivial ?_
  exact rt1 rfl rfl (ple_of (fun r : Bool => .bool r) e0 (ple rfl))
theorem l12_awake_ok : Fn Tryz.prog gb 8 [] (.bool (l12_awake)) := by
  refine fn_cw tbv74ok Tryz.func8 rfl Tryz.ntmps8 rfl cb8 rfl rfl fun w N H hG => ?_
  have e0 := l12_awake.eq_1
  refine go tbv74ok 8 rfl rfl trivial ?_
  refine call (reply_Frame (⟨1, 1, 0, 0, false, [], (⟨0, [], [], [], [], 0, 0⟩ : Mail)⟩ : Reply)) rfl rfl fun w1 => ?_
  refine go tbv74ok 3 rfl rfl trivial ?_
  refine ef (alloc tbv74ok 0 rfl rfl rfl rfl fun b2 => ?_)
  refine ef (storeA tbv74ok rfl rfl rfl rfl rfl rfl rfl rfl rfl rfl ?_)
  refine go tbv74ok 5 rfl rfl trivial ?_
  refine call l08_Awake_ok rfl rfl fun w3 => ?_
  refine go tbv74ok 1 rfl rfl trivial ?_
  refine callg rfl (fun hc => l09_Awake) rfl trivial rfl rfl fun _ => ?_
  refine go tbv74ok 19 rfl rfl ⟨rfl, rfl, (fun hc => hc), rfl, rfl, (fun hc => hc), (fun hc => hc), rfl, rfl, (fun hc => hc), (fun hc => hc), rfl, rfl, trivial⟩ ?_
  exact rt1 rfl rfl (ple_of (fun r : Bool => .bool r) e0 (ple rfl))
end Go.SW.V
set_option linter.unusedVariables false
set_option maxRecDepth 100000
set_option maxHeartbeats 4000000
namespace Go.SW.V
open Go.SW Go.Proofs
theorem cb3 : Callable Tryz.prog 3 := callable_of Tryz.func3 (by kernel_rfl) (by kernel_rfl)
def tbv75 : Tb := [(3, ⟨.int .i64, 1, 8, [.int .i64 0]⟩),
  (9, ⟨.str, 1, 16, [.str []]⟩),
  (22, ⟨.slc 30, 1, 24, [.sl Reply.pc []]⟩),
  (23, ⟨.int .u16, 1, 2, [.int .u16 0]⟩),
  (30, ⟨.agg [(0, 1), (1, 1), (2, 1), (3, 1), (4, 1), (5, 1), (6, 7)], 13, 144, [.int .u8 0, .int .u8 0, .int .u64 0, .int .u64 0, .bool false, .str [], .int .u64 0, .str [], .str [], .sl Pair.pc [], .str [], .int .u64 0, .int .u8 0]⟩),
  (41, ⟨.agg [(0, 1), (1, 1)], 2, 24, [.str [], .int .i64 0]⟩),
  (42, ⟨.slc 50, 1, 24, [.sl Frame.pc []]⟩),
  (50, ⟨.agg [(0, 1), (1, 1), (2, 1)], 3, 24, [.int .u8 0, .int .u8 0, .str []]⟩)]
theorem tbv75ok : tbB Tryz.prog tbv75 = true := by kernel_rfl
theorem l12_ReplyBytes_ok (l : List Reply) (at_ : Int) : Fn Tryz.prog gb 3 [.sl Reply.pc l, .int .u16 at_] (.bool (l12_ReplyBytes l at_)) := by
  refine fn_cw tbv75ok Tryz.func3 rfl Tryz.ntmps3 rfl cb3 rfl rfl fun w N H hG => ?_
  have l_l : l.length ≤ 140737488355328 := w.1.1
  have at__r : 0 ≤ at_ ∧ at_ ≤ 65535 := w.2.1
  have e0 := l12_ReplyBytes.eq_1 l at_
  refine go tbv75ok 8 rfl rfl trivial ?_
  refine call l12_awake_ok rfl rfl fun w1 => ?_
  refine go tbv75ok 3 rfl rfl trivial ?_
  refine cnd rfl (fun h2 => ?_) (fun h2 => ?_)
  · have h3 := not_t h2
    have e4 := e0.trans (condT h2)
    refine go tbv75ok 7 rfl rfl trivial ?_
    exact rt1 rfl rfl (ple_of (fun r : Bool => .bool r) e4 (ple rfl))
  · have h5 := not_f h2
    have e6 := e0.trans (condF h2)
    refine go tbv75ok 10 rfl rfl trivial ?_
    refine cnd rfl (fun h7 => ?_) (fun h7 => ?_)
    · have p8 := dt h7
      have e9 := e6.trans (condT h7)
      refine go tbv75ok 7 rfl rfl trivial ?_
      exact rt1 rfl rfl (ple_of (fun r : Bool => .bool r) e9 (ple rfl))
    · have p10 := df h7
      have e11 := e6.trans (condF h7)
      refine go tbv75ok 16 rfl rfl trivial ?_
      refine sw_own (t := 5) (k := 13) (e := 30) 0 Reply.pc rfl rfl ?_
      refine loop (ι := Nat × (List Reply) × Value) [0, 1, 22, 23] [] (fun ⟨k, may, u_may⟩ => [(24, .int .i64 (k : Int)), (5, .osl 0)]) (fun ⟨k, may, u_may⟩ => [(0, .arr u_may 13 30 Reply.pc may)]) (fun ⟨k, may, u_may⟩ => k ≤ l.length ∧ l12_ReplyBytes l at_ = l12_ReplyBytes_l0 l at_ (l.drop k)  may ∧ may.length ≤ k ∧ ∀ r ∈ l.take k, lightR r = true) (fun ⟨k, may, u_may⟩ => l.length - k) ⟨0, [], (.slice none 0 0)⟩ ⟨rfl, rfl, trivial⟩ ⟨rfl, trivial⟩ ?_ ?_
      · exact ⟨Nat.zero_le _, e11, ⟨by simp, by simp⟩⟩
      · rintro ⟨k, may, u_may⟩ ⟨hp12_1, hp12_2, hp12_3⟩
        obtain ⟨hp_len, hp_inv⟩ := hp12_3
        refine go tbv75ok 6 rfl rfl trivial ?_
        refine cnd rfl (fun h13 => ?_) (fun h13 => ?_)
        · have p14 := dt h13
          have e15 := lstep (f := fun zz => l12_ReplyBytes_l0 l at_ zz  may) hp12_2 (dropG (by omega)) (l12_ReplyBytes_l0.eq_2 _ _ _ _ _)
          have hc16 := getG (xs := l) (k := k) (by first | omega | (have hm1 := Int.emod_nonneg at_ (show ((r.length : Int) + 1) ≠ 0 by omega); have hm2 := Int.emod_lt_of_pos at_ (show (0 : Int) < (r.length : Int) + 1 by omega); first | omega | (simp only [List.length_take, List.length_drop]; omega)))
          refine go tbv75ok 6 rfl rfl trivial ?_
          refine q1 (qidx tbv75ok k rfl rfl rfl hc16 rfl rfl rfl rfl) rfl fun w17 => ?_
          refine go tbv75ok 1 rfl rfl trivial ?_
          refine ef (alloc tbv75ok 1 rfl rfl rfl rfl fun b18 => ?_)
          refine ef (storeA tbv75ok rfl rfl rfl rfl rfl rfl rfl rfl rfl rfl ?_)
          refine go tbv75ok 6 rfl rfl trivial ?_
          refine call (l12_Light _) rfl rfl fun w19 => ?_
          have hlr19 := lightR_len (gt l k)
          refine go tbv75ok 3 rfl rfl trivial ?_
          refine cnd rfl (fun h20 => ?_) (fun h20 => ?_)
          · have h21 := not_t h20
            have e22 := e15.trans (condT h20)
            refine go tbv75ok 12 rfl rfl trivial ?_
            exact rt1 rfl rfl (ple_of (fun r : Bool => .bool r) e22 (ple rfl))
          · have h23 := not_f h20
            have e24 := e15.trans (condF h20)
            refine go tbv75ok 5 rfl rfl trivial ?_
            refine call (l12_To _ (by first | omega | (have := lightR_len (gt l k) (by assumption); omega))) rfl rfl fun w25 => ?_
            refine call (r12_Check _) rfl rfl fun w26 => ?_
            have hrl := replyE_len (gt l k)
            refine go tbv75ok 3 rfl rfl trivial ?_
            refine cnd rfl (fun h27 => ?_) (fun h27 => ?_)
            · have p28 := dt h27
              have e29 := e24.trans (condT h27)
              refine go tbv75ok 3 rfl rfl trivial ?_
              refine ef (bsl 2 Reply.pc [(gt l k)] tbv75ok rfl rfl rfl rfl rfl (fun _ => rfl) rfl (by decide) (by decide) rfl fun u30 => ?_)
              refine ef (app tbv75ok [(gt l k)] rfl rfl rfl rfl rfl rfl rfl rfl rfl (src_o rfl rfl) (by first | omega | (simp; omega)) rfl fun u31 => ?_)
              refine go tbv75ok 8 rfl rfl ⟨(by omega), trivial⟩ ?_
              refine next ⟨(k + 1), (may ++ [(gt l k)]), (u31)⟩ rfl rfl ⟨rfl, rfl, trivial⟩ ⟨rfl, trivial⟩ ?_ ?_
              · (try simp only []); omega
              · exact ⟨by (try simp only []); omega, e29, ⟨(by (try simp only [List.length_append, List.length_cons, List.length_nil]); omega), lr_step (by assumption) (by assumption) (by assumption)⟩⟩
            · have p32 := df h27
              have e33 := e24.trans (condF h27)
              refine go tbv75ok 7 rfl rfl ⟨(by omega), trivial⟩ ?_
              refine next ⟨(k + 1), may, (u_may)⟩ rfl rfl ⟨rfl, rfl, trivial⟩ ⟨rfl, trivial⟩ ?_ ?_
              · (try simp only []); omega
              · exact ⟨by (try simp only []); omega, e33, ⟨(by (try simp only [List.length_append, List.length_cons, List.length_nil]); omega), lr_step (by assumption) (by assumption) (by assumption)⟩⟩
        · have p34 := df h13
          have e35 := lstep (f := fun zz => l12_ReplyBytes_l0 l at_ zz  may) hp12_2 (dropN (by omega)) (l12_ReplyBytes_l0.eq_1 _ _ _)
          refine go tbv75ok 8 rfl rfl trivial ?_
          refine callv (reply_Bytes l) (fun r : Bs => .str r) (reply_Bytes_ok _ (by omega)) rfl rfl fun r hr36 w37 => ?_
          have e38 := e35.trans (lt_eq hr36)
          have hA38 := rb_len l
          (try rw [← hr36] at hA38)
          refine go tbv75ok 8 rfl rfl trivial ?_
          refine callv (l12_All l) (fun r : (List Reply) => .sl Reply.pc r) (l12_All_ok _ (by omega) (by first | assumption | exact lr_full (by assumption) (by omega))) rfl rfl fun r1 hr40 w41 => ?_
          have e42 := e38.trans (lt_eq hr40)
          have hA42 := all12_eq l
          (try rw [← hr40] at hA42)
          refine callv (r12_Bytes r1) (fun r : Bs => .str r) (r12_Bytes_ok _ (by first | assumption | exact lr_pre (by assumption) (by omega) (lr_full (by assumption) (by omega)))) rfl rfl fun r2 hr44 w45 => ?_
          have e46 := e42.trans (lt_eq hr44)
          refine go tbv75ok 3 rfl rfl trivial ?_
          refine cnd rfl (fun h47 => ?_) (fun h47 => ?_)
          · have h48 := not_t h47
            have p49 := df h48
            have e50 := e46.trans (condT h47)
            refine go tbv75ok 7 rfl rfl trivial ?_
            exact rt1 rfl rfl (ple_of (fun r : Bool => .bool r) e50 (ple rfl))
          · have h51 := not_f h47
            have p52 := dt h51
            have e53 := e46.trans (condF h47)
            refine go tbv75ok 18 rfl rfl ⟨(by omega), (by omega), (by omega), trivial⟩ ?_
            refine q1 (sshi tbv75ok ((at_ % ((r.length : Int) + 1))).toNat rfl rfl rfl rfl (by first | omega | (have hm1 := Int.emod_nonneg at_ (show ((r.length : Int) + 1) ≠ 0 by omega); have hm2 := Int.emod_lt_of_pos at_ (show (0 : Int) < (r.length : Int) + 1 by omega); first | omega | (simp only [List.length_take, List.length_drop]; omega))) (by first | omega | (have hm1 := Int.emod_nonneg at_ (show ((r.length : Int) + 1) ≠ 0 by omega); have hm2 := Int.emod_lt_of_pos at_ (show (0 : Int) < (r.length : Int) + 1 by omega); first | omega | (simp only [List.length_take, List.length_drop]; omega)))) rfl fun w54 => ?_
            refine ef (ecallo 1 (feed_Take (⟨[], 0⟩ : Feed) _ (by first | omega | (simp; done) | (simp; omega) | (simp only [List.length_nil, List.length_take, List.length_drop]; omega) | decide +kernel)) rfl rfl fun u56 w55 => ?_)
            have hfd56 := feed_le (⟨[], 0⟩ : Feed) (r.take ((at_ % ((r.length : Int) + 1))).toNat)
            (try simp only [List.length_nil, List.length_take, List.length_drop] at hfd56)
            refine go tbv75ok 3 rfl rfl trivial ?_
            refine ef (alloc tbv75ok 2 rfl rfl rfl rfl fun b58 => ?_)
            refine ef (storeA tbv75ok rfl rfl rfl rfl rfl rfl rfl rfl rfl rfl ?_)
            refine go tbv75ok 4 rfl rfl trivial ?_
            refine joinc (ι := Value × Nat) [5, 11] [0, 1, 2] (fun ⟨u59, b60⟩ => [(12, .own 4 b60 0), (13, .val u59)]) (fun ⟨u59, b60⟩ => [(3, .arr u59 3 50 Frame.pc ((feedTake ((feedTake (⟨[], 0⟩ : Feed) (r.take ((at_ % ((r.length : Int) + 1))).toNat)).1) (r.drop ((at_ % ((r.length : Int) + 1))).toNat)).2)), (4, .box b60 41 [.str (((feedTake ((feedTake (⟨[], 0⟩ : Feed) (r.take ((at_ % ((r.length : Int) + 1))).toNat)).1) (r.drop ((at_ % ((r.length : Int) + 1))).toNat)).1).rest), .int .i64 (((feedTake ((feedTake (⟨[], 0⟩ : Feed) (r.take ((at_ % ((r.length : Int) + 1))).toNat)).1) (r.drop ((at_ % ((r.length : Int) + 1))).toNat)).1).err)])]) (fun ⟨u59, b60⟩ => PV.wf (.tup [.agg (Feed.pc ((feedTake ((feedTake (⟨[], 0⟩ : Feed) (r.take ((at_ % ((r.length : Int) + 1))).toNat)).1) (r.drop ((at_ % ((r.length : Int) + 1))).toNat)).1)), .val u59])) ?_ ?_
            · refine any [3, 4, 5, 6, 7, 8, 9, 10] 11 mixd rfl ?_
              refine gov tbv75ok [0, 1, 2] 8 rfl (by kernel_rfl) rfl rfl trivial ?_
              refine vq 3 (sslo tbv75ok ((at_ % ((r.length : Int) + 1))).toNat rfl rfl rfl rfl (by first | omega | (have hm1 := Int.emod_nonneg at_ (show ((r.length : Int) + 1) ≠ 0 by omega); have hm2 := Int.emod_lt_of_pos at_ (show (0 : Int) < (r.length : Int) + 1 by omega); first | omega | (simp only [List.length_take, List.length_drop]; omega))) (by first | omega | (have hm1 := Int.emod_nonneg at_ (show ((r.length : Int) + 1) ≠ 0 by omega); have hm2 := Int.emod_lt_of_pos at_ (show (0 : Int) < (r.length : Int) + 1 by omega); first | omega | (simp only [List.length_take, List.length_drop]; omega)))) rfl (by kernel_rfl) rfl fun w61 => ?_
              refine veL 4 [8] (by kernel_rfl) ⟨⟨_, rfl, ?_⟩, ⟨_, rfl, ?_⟩, trivial⟩
              · refine ej rfl (ecallo 3 (feed_Take _ _ (by first | omega | (simp; done) | (simp; omega) | (simp only [List.length_nil, List.length_take, List.length_drop]; omega) | decide +kernel)) rfl rfl fun u63 w62 => ?_)
                have hfd63 := feed_le ((feedTake (⟨[], 0⟩ : Feed) (r.take ((at_ % ((r.length : Int) + 1))).toNat)).1) (r.drop ((at_ % ((r.length : Int) + 1))).toNat)
                (try simp only [List.length_nil, List.length_take, List.length_drop] at hfd63)
                refine gov tbv75ok [5, 6, 7] 3 rfl (by kernel_rfl) rfl rfl trivial ?_
                refine ve 8 rfl (by kernel_rfl) rfl (alloc tbv75ok 4 rfl rfl rfl rfl fun b65 => ?_)
                refine ve 9 rfl (by kernel_rfl) rfl (storeA tbv75ok rfl rfl rfl rfl rfl rfl rfl rfl rfl rfl ?_)
                refine gov tbv75ok [10] 0 rfl (by kernel_rfl) rfl rfl trivial ?_
                refine vdone (by kernel_rfl) ?_
                refine next ⟨(u63), (b65)⟩ rfl rfl ⟨rfl, rfl, trivial⟩ ⟨rfl, rfl, trivial⟩ (by decide) ?_
                exact w62
              · refine ej rfl (alloc tbv75ok 4 rfl rfl rfl rfl fun b66 => ?_)
                refine ve 4 rfl (by kernel_rfl) rfl (ecallo 3 (feed_Take _ _ (by first | omega | (simp; done) | (simp; omega) | (simp only [List.length_nil, List.length_take, List.length_drop]; omega) | decide +kernel)) rfl rfl fun u68 w67 => ?_)
                have hfd68 := feed_le ((feedTake (⟨[], 0⟩ : Feed) (r.take ((at_ % ((r.length : Int) + 1))).toNat)).1) (r.drop ((at_ % ((r.length : Int) + 1))).toNat)
                (try simp only [List.length_nil, List.length_take, List.length_drop] at hfd68)
                refine gov tbv75ok [5, 6, 7] 2 rfl (by kernel_rfl) rfl rfl trivial ?_
                refine ve 9 rfl (by kernel_rfl) rfl (storeA tbv75ok rfl rfl rfl rfl rfl rfl rfl rfl rfl rfl ?_)
                refine gov tbv75ok [10] 0 rfl (by kernel_rfl) rfl rfl trivial ?_
                refine vdone (by kernel_rfl) ?_
                refine next ⟨(u68), (b66)⟩ rfl rfl ⟨rfl, rfl, trivial⟩ ⟨rfl, rfl, trivial⟩ (by decide) ?_
                exact w67
            · rintro ⟨u59, b60⟩ w70
              have hfd70 := feed_le ((feedTake (⟨[], 0⟩ : Feed) (r.take ((at_ % ((r.length : Int) + 1))).toNat)).1) (r.drop ((at_ % ((r.length : Int) + 1))).toNat)
              (try simp only [List.length_nil, List.length_take, List.length_drop] at hfd70)
              refine go tbv75ok 5 rfl rfl trivial ?_
              refine so_osl (t := 69) 1 rfl rfl ?_
              refine so_osl (t := 70) 3 rfl rfl ?_
              refine ef (app tbv75ok ((feedTake ((feedTake (⟨[], 0⟩ : Feed) (r.take ((at_ % ((r.length : Int) + 1))).toNat)).1) (r.drop ((at_ % ((r.length : Int) + 1))).toNat)).2) rfl rfl rfl rfl rfl rfl rfl rfl rfl (src_o rfl rfl) (by first | omega | (simp; omega)) rfl fun u72 => ?_)
              refine go tbv75ok 13 rfl rfl trivial ?_
              refine callg rfl (fun hc => (feed_Rest _)) rfl ⟨(fun hc => hc), trivial⟩ rfl rfl fun _ => ?_
              refine go tbv75ok 4 rfl rfl ⟨(fun hc => hc), rfl, rfl, trivial⟩ ?_
              refine callg rfl (fun hc => (feed_Err _)) rfl ⟨(fun hc => hc), trivial⟩ rfl rfl fun _ => ?_
              refine go tbv75ok 4 rfl rfl ⟨(fun hc => hc), rfl, rfl, trivial⟩ ?_
              refine cnd rfl (fun h73 => ?_) (fun h73 => ?_)
              · have e74 := e53.trans (condT h73)
                refine go tbv75ok 7 rfl rfl trivial ?_
                exact rt1 rfl rfl (ple_of (fun r : Bool => .bool r) e74 (ple rfl))
              · have h75 := orl h73
                have h76 := orl h75
                have h77 := not_f h76
                have p78 := dt h77
                have h79 := orr h75
                have h80 := not_f h79
                have p81 := dt h80
                have h82 := orr h73
                have h83 := not_f h82
                have p84 := dt h83
                have e85 := e53.trans (condF h73)
                refine go tbv75ok 11 rfl rfl trivial ?_
                refine givec 0 rfl ?_
                refine givec 1 rfl ?_
                refine loop (ι := Nat × Nat) [5, 11, 88] [2, 3, 4] (fun ⟨f, v⟩ => [(89, .int .i64 (v : Int))]) (fun ⟨f, v⟩ => []) (fun ⟨f, v⟩ => (((feedTake (⟨[], 0⟩ : Feed) (r.take ((at_ % ((r.length : Int) + 1))).toNat)).2 ++ (feedTake ((feedTake (⟨[], 0⟩ : Feed) (r.take ((at_ % ((r.length : Int) + 1))).toNat)).1) (r.drop ((at_ % ((r.length : Int) + 1))).toNat)).2).length) - v < f ∧ l12_ReplyBytes l at_ = l12_ReplyBytes_l1 at_ may r f v) (fun ⟨f, v⟩ => f) ⟨((((feedTake (⟨[], 0⟩ : Feed) (r.take ((at_ % ((r.length : Int) + 1))).toNat)).2 ++ (feedTake ((feedTake (⟨[], 0⟩ : Feed) (r.take ((at_ % ((r.length : Int) + 1))).toNat)).1) (r.drop ((at_ % ((r.length : Int) + 1))).toNat)).2).length) - 0 + 1), 0⟩ ⟨rfl, trivial⟩ trivial ?_ ?_
                · exact ⟨Nat.lt_succ_self _, e85⟩
                · rintro ⟨f, v⟩ ⟨hp86_1, hp86_2⟩
                  obtain ⟨f1, rfl⟩ : ∃ q, f = q + 1 := ⟨f - 1, by omega⟩
                  have e_f1 := hp86_2.trans (l12_ReplyBytes_l1.eq_2 _ _ _ _ _)
                  refine go tbv75ok 6 rfl rfl trivial ?_
                  refine cnd rfl (fun h87 => ?_) (fun h87 => ?_)
                  · have p88 := dt h87
                    have e89 := e_f1.trans (condT h87)
                    have hc90 := getG (xs := ((feedTake (⟨[], 0⟩ : Feed) (r.take ((at_ % ((r.length : Int) + 1))).toNat)).2 ++ (feedTake ((feedTake (⟨[], 0⟩ : Feed) (r.take ((at_ % ((r.length : Int) + 1))).toNat)).1) (r.drop ((at_ % ((r.length : Int) + 1))).toNat)).2)) (k := v) (by first | omega | (have hm1 := Int.emod_nonneg at_ (show ((r.length : Int) + 1) ≠ 0 by omega); have hm2 := Int.emod_lt_of_pos at_ (show (0 : Int) < (r.length : Int) + 1 by omega); first | omega | (simp only [List.length_take, List.length_drop]; omega)))
                    refine go tbv75ok 14 rfl rfl trivial ?_
                    refine q1 (qidx tbv75ok v rfl rfl rfl hc90 rfl rfl rfl rfl) rfl fun w91 => ?_
                    refine go tbv75ok 1 rfl rfl trivial ?_
                    refine callv (reply_Of (gt ((feedTake (⟨[], 0⟩ : Feed) (r.take ((at_ % ((r.length : Int) + 1))).toNat)).2 ++ (feedTake ((feedTake (⟨[], 0⟩ : Feed) (r.take ((at_ % ((r.length : Int) + 1))).toNat)).1) (r.drop ((at_ % ((r.length : Int) + 1))).toNat)).2) v)) (fun r : Reply × Int => .tup [.agg (Reply.pc r.1), .int .i64 r.2]) (reply_Of_ok _) rfl rfl fun r3 hr92 w93 => ?_
                    have e94 := e89.trans (lt_eq hr92)
                    refine go tbv75ok 3 rfl rfl trivial ?_
                    refine ef (alloc tbv75ok 0 rfl rfl rfl rfl fun b95 => ?_)
                    refine ef (storeA tbv75ok rfl rfl rfl rfl rfl rfl rfl rfl rfl rfl ?_)
                    refine go tbv75ok 4 rfl rfl trivial ?_
                    refine any [1, 5, 6, 7, 8, 9] 11 mixd rfl ?_
                    refine gov tbv75ok [0, 1, 2, 3, 4, 5] 5 rfl (by kernel_rfl) rfl rfl trivial ?_
                    refine vqg 6 [104, 105] rfl (by kernel_rfl) rfl rfl (fun hc => qidx tbv75ok v rfl rfl rfl (getG (by first | omega | (simp only [gOf, Bool.and_eq_true, Bool.or_eq_true, Bool.not_eq_true', decide_eq_true_eq, decide_eq_false_iff_not, Bool.not_eq_false', Bool.and_true, Bool.true_and, cond_true, cond_false] at *; omega))) rfl rfl rfl rfl) ⟨(fun hc => hc), (fun hc => hc), trivial⟩ rfl fun _ => ?_
                    refine gov tbv75ok [7] 3 rfl (by kernel_rfl) rfl rfl ⟨(fun hc => hc), trivial⟩ ?_
                    refine vcallg 8 rfl (by kernel_rfl) rfl (fun hc => (reply_Same _ _)) rfl rfl ⟨(fun hc => hc), (fun hc => hc), trivial⟩ rfl fun _ => ?_
                    refine gov tbv75ok [9, 10] 0 rfl (by kernel_rfl) rfl rfl ⟨(fun hc => hc), rfl, rfl, trivial⟩ ?_
                    refine vdone (by kernel_rfl) ?_
                    refine go tbv75ok 1 rfl rfl trivial ?_
                    refine cnd rfl (fun h96 => ?_) (fun h96 => ?_)
                    · have e97 := e94.trans (condT h96)
                      refine go tbv75ok 11 rfl rfl trivial ?_
                      exact rt1 rfl rfl (ple_of (fun r : Bool => .bool r) e97 (ple rfl))
                    · have h98 := orl h96
                      have h99 := not_f h98
                      have p100 := dt h99
                      have h101 := orr h96
                      have h102 := not_f h101
                      have p103 := dt h102
                      have e104 := e94.trans (condF h96)
                      refine go tbv75ok 7 rfl rfl ⟨(by omega), trivial⟩ ?_
                      refine next ⟨f1, (v + 1)⟩ rfl rfl ⟨rfl, trivial⟩ trivial ?_ ?_
                      · (try simp only []); omega
                      · exact ⟨by (try simp only []); omega, e104⟩
                  · have p105 := df h87
                    have e106 := e_f1.trans (condF h87)
                    refine go tbv75ok 11 rfl rfl trivial ?_
                    exact rt1 rfl rfl (ple_of (fun r : Bool => .bool r) e106 (ple rfl))
end Go.SW.V
namespace Go.SW
open Go.ChangeShapes Go.WideShapes Go.ChangeAt Go.RowKit
variable {P : Program}
end Go.SW
namespace Go.SW.V
open Go.SW
theorem r12f_eq {r : Reply} (h : replyE r = 0) (h0 : ∀ p ∈ r.mail.head, 0 ≤ p.kind) : r12_Frame r = replyFrame r := by
  have hl := replyE_len r h
  have e : replyFrame r = ⟨r.channel, IntKind.wrap .u8 (64 + r.kind), (replyOut r).s⟩ := if_pos h
  have k8 : numK 8 = 8 := rfl
  have b0 : numB 1 0 = [0] := by decide
  have b1 : numB 1 1 = [1] := by decide
  rw [e]
  by_cases k0 : r.kind = 0
  · rw [replyOut_0 k0 (by omega)]; simp [r12_Frame, lt1, k0]
  · by_cases k2 : r.kind = 2 ∨ r.kind = 5 ∨ r.kind = 7
    · rw [replyOut_n k2]
      rcases k2 with k | k | k <;> simp [r12_Frame, lt1, k, k8]
    · by_cases k6 : r.kind = 6
      · rw [replyOut_6 k6]; simp [r12_Frame, lt1, k6, k8]
      · by_cases k3 : r.kind = 3
        · have e9 := headBytes_r9 h k3 h0
          rw [replyOut_3 k3 (by omega) (by omega) (by omega)]
          cases hy : r.yes <;> simp [r12_Frame, lt1, k3, k8, hy, sentB, e9, b0, b1]
        · rw [replyOut_e k0 k2 (by omega)]
          have : ¬ (r.kind = 2 ∨ r.kind = 3 ∨ r.kind = 5 ∨ r.kind = 6 ∨ r.kind = 7) := by omega
          have a2 : ¬ r.kind = 2 := by omega
          have a5 : ¬ r.kind = 5 := by omega
          have a7 : ¬ r.kind = 7 := by omega
          simp [r12_Frame, lt1, k0, k3, k6, a2, a5, a7]
/-- The bytes of those that may be. -/
def mayL (l : List Reply) : List Reply := l.filter fun r => decide (replyE r = 0)
def mb (l : List Reply) : Bs := (mayL l).flatMap fun r => frB (replyFrame r)
theorem frb_eq {r : Reply} (h : replyE r = 0) : frameBytes (replyFrame r) = frB (replyFrame r) := by
  have e : replyFrame r = ⟨r.channel, IntKind.wrap .u8 (64 + r.kind), (replyOut r).s⟩ := if_pos h
  have hl := rOut_le h
  exact frameBytes_s (by rw [e]; exact hl)
theorem rb_eq : ∀ (l : List Reply) (x : Bs), reply_Bytes_l0 l x = x ++ mb l
  | [], x => by simp [reply_Bytes_l0, mb, mayL]
  | r :: l, x => by
    rw [reply_Bytes_l0, Bool.cond_eq_ite]
    by_cases h : replyE r = 0
    · rw [if_neg (by simp [h]), rb_eq l, frb_eq h]; simp [mb, mayL, h]
    · rw [if_pos (by simp [h]), rb_eq l]; simp [mb, mayL, h]
theorem r12b_eq : ∀ (l : List Reply) (x : Bs), (∀ r ∈ l, ∀ p ∈ r.mail.head, 0 ≤ p.kind) → r12_Bytes_l0 l x = x ++ mb l
  | [], x, _ => by simp [r12_Bytes_l0, mb, mayL]
  | r :: l, x, hk => by
    have ih := fun x => r12b_eq l x (fun q hq => hk q (List.mem_cons_of_mem _ hq))
    rw [r12_Bytes_l0, Bool.cond_eq_ite]
    by_cases h : replyE r = 0
    · rw [if_pos (by simp [h])]; simp only [lt]; rw [ih, r12f_eq h (hk r (List.mem_cons_self ..))]; simp [mb, mayL, h]
    · rw [if_neg (by simp [h]), ih]; simp [mb, mayL, h]
theorem take_go {fs : List Frame} (hf : ∀ f ∈ fs, okF f) {k : Nat} (hk : k ≤ (catB fs).length) :
    (feedTake ⟨[], 0⟩ ((catB fs).take k)).2 ++ (feedTake (feedTake ⟨[], 0⟩ ((catB fs).take k)).1 ((catB fs).drop k)).2 = fs ∧ (feedTake (feedTake ⟨[], 0⟩ ((catB fs).take k)).1 ((catB fs).drop k)).1 = ⟨[], 0⟩ := by
  obtain ⟨j, r, h1, h2, _⟩ := feedGo_take fs k (((catB fs).take k).length + 1) [] hf hk (by simp; omega)
  have e1 : feedTake ⟨[], 0⟩ ((catB fs).take k) = (⟨r, 0⟩, fs.take j) := by
    unfold feedTake
    rw [if_neg (by simp)]
    simpa using h1
  obtain ⟨j', r', h3, h4, h5⟩ := feedGo_take (fs.drop j) (catB (fs.drop j)).length ((catB (fs.drop j)).length + 1) [] (fun f h => hf f (List.mem_of_mem_drop h)) (Nat.le_refl _) (by omega)
  obtain ⟨rfl, rfl⟩ := h5 rfl
  have e2 : feedTake ⟨r, 0⟩ ((catB fs).drop k) = (⟨[], 0⟩, fs.drop j) := by
    unfold feedTake
    rw [if_neg (by simp)]
    simp only [h2]
    rw [List.take_length] at h3
    rw [h3]
    simp only [List.nil_append]
    rw [List.take_of_length_le (Nat.le_refl _)]
  rw [e1]
  simp only [e2]
  exact ⟨List.take_append_drop _ _, trivial⟩
def cls (r : Reply × In) : Reply × Int := bif decide (inEnd r.2 = 0) then (bif !decide (replyE r.1 = 0) then (Reply.zero, replyE r.1) else (r.1, 0)) else (Reply.zero, inEnd r.2)
theorem of_cl (r : Reply × In) : (let e := if inEnd r.2 = 0 then replyE r.1 else inEnd r.2; if e ≠ 0 then (Reply.zero, e) else (r.1, 0)) = cls r := by
  unfold cls
  by_cases h : inEnd r.2 = 0
  · by_cases h2 : replyE r.1 = 0
    · simp [h, h2]
    · simp [h, h2]
  · simp [h]
theorem lt_ind {α β : Type} {a : α} {f : α → β} {b : β} (g : α → β) (hb : b = g a) (h : ∀ r, f r = g r) : lt a f = b := by rw [hb]; exact h a
def sRb (b : Bool) (r7 r8 : Bs × In) (r9 : List Pair × In) (r10 : Bs × In) : (Bool × Mail) × In := ((b, ⟨0, r7.1, r8.1, r9.1, r10.1, 0, 0⟩), r10.2)
def mkR (c n m : Int) (s : (Bool × Mail) × In) : Reply × In := (⟨c, 3, n, m, s.1.1, [], s.1.2⟩, s.2)
theorem k3b (c n m : Int) (b : Bool) (j : In) : (lt (inText j 16) fun r7 => lt (inText r7.2 64) fun r8 => lt (headRead r8.2) fun r9 => lt (inText r9.2 256) fun r10 => cls (⟨c, 3, n, m, b, [], ⟨0, r7.1, r8.1, r9.1, r10.1, 0, 0⟩⟩, r10.2)) =
    cls (mkR c n m (lt (inText j 16) fun r7 => lt (inText r7.2 64) fun r8 => lt (headRead r8.2) fun r9 => lt (inText r9.2 256) fun r10 => sRb b r7 r8 r9 r10)) := by
  refine lt_ind (fun (r7 : Bs × In) => cls (mkR c n m (lt (inText r7.2 64) fun r8 => lt (headRead r8.2) fun r9 => lt (inText r9.2 256) fun r10 => sRb b r7 r8 r9 r10))) rfl fun r7 => ?_
  refine lt_ind (fun (r8 : Bs × In) => cls (mkR c n m (lt (headRead r8.2) fun r9 => lt (inText r9.2 256) fun r10 => sRb b r7 r8 r9 r10))) rfl fun r8 => ?_
  refine lt_ind (fun (r9 : List Pair × In) => cls (mkR c n m (lt (inText r9.2 256) fun r10 => sRb b r7 r8 r9 r10))) rfl fun r9 => ?_
  exact lt_ind (fun (r10 : Bs × In) => cls (mkR c n m (sRb b r7 r8 r9 r10))) rfl fun r10 => rfl
theorem sent_lt (i : In) : sentRead i = lt (inNum i 1) fun y => lt (inText (if 1 < y.1 then inFail y.2 4 else y.2) 16) fun r7 => lt (inText r7.2 64) fun r8 => lt (headRead r8.2) fun r9 => lt (inText r9.2 256) fun r10 => sRb (decide (y.1 = 1)) r7 r8 r9 r10 := rfl
theorem reply_Of_eq {f : Frame} (h0 : 0 ≤ f.kind ∧ f.kind ≤ 255) : reply_Of f = replyOf f := by
  unfold reply_Of replyOf
  by_cases hk : f.kind < 64 ∨ 71 < f.kind
  · rw [if_pos hk, show (decide (f.kind < 64) || decide (71 < f.kind)) = true by simpa using hk]; rfl
  · rw [if_neg hk, show (decide (f.kind < 64) || decide (71 < f.kind)) = false by simpa using hk]
    simp only [cond_false]
    rw [of_cl]
    have hw : IntKind.wrap .u8 (f.kind - 64) = f.kind - 64 := by
      simp [IntKind.wrap, IntKind.bits, IntKind.signed]; omega
    rw [hw]
    generalize f.kind - 64 = k
    generalize (⟨f.body, 0⟩ : In) = i
    generalize f.channel = c
    unfold replyRead
    by_cases k0 : k = 0
    · subst k0; rw [show decide ((0 : Int) = 0) = true from rfl, cond_true]; rw [if_pos rfl]; exact lt_ind (fun (r : Bs × In) => cls (⟨c, 0, 0, 0, false, r.1, Mail.zero⟩, r.2)) rfl fun r => rfl
    · rw [if_neg k0, show decide (k = 0) = false by simpa using k0, cond_false]
      by_cases k2 : k = 2
      · subst k2; rw [show decide ((2 : Int) = 2) = true from rfl, cond_true]; rw [if_pos (by decide)]; exact lt_ind (fun (r : Int × In) => cls (⟨c, 2, r.1, 0, false, [], Mail.zero⟩, r.2)) rfl fun r => rfl
      · rw [show decide (k = 2) = false by simpa using k2, cond_false]
        by_cases k5 : k = 5
        · subst k5; rw [show decide ((5 : Int) = 5) = true from rfl, cond_true]; rw [if_pos (by decide)]; exact lt_ind (fun (r : Int × In) => cls (⟨c, 5, r.1, 0, false, [], Mail.zero⟩, r.2)) rfl fun r => rfl
        · rw [show decide (k = 5) = false by simpa using k5, cond_false]
          by_cases k7 : k = 7
          · subst k7; rw [show decide ((7 : Int) = 7) = true from rfl, cond_true]; rw [if_pos (by decide)]; exact lt_ind (fun (r : Int × In) => cls (⟨c, 7, r.1, 0, false, [], Mail.zero⟩, r.2)) rfl fun r => rfl
          · rw [show decide (k = 7) = false by simpa using k7, if_neg (by omega), cond_false]
            by_cases k3 : k = 3
            · subst k3
              rw [if_neg (by decide), if_pos rfl, show decide ((3 : Int) = 3) = true from rfl, cond_true]
              refine lt_ind (fun (r4 : Int × In) => cls (mkR c r4.1 (inNum r4.2 8).1 (sentRead (inNum r4.2 8).2))) rfl fun r4 => ?_
              refine lt_ind (fun (r5 : Int × In) => cls (mkR c r4.1 r5.1 (sentRead r5.2))) rfl fun r5 => ?_
              rw [sent_lt]
              refine lt_ind (fun (r6 : Int × In) => cls (mkR c r4.1 r5.1 (lt (inText (if 1 < r6.1 then inFail r6.2 4 else r6.2) 16) fun r7 => lt (inText r7.2 64) fun r8 => lt (headRead r8.2) fun r9 => lt (inText r9.2 256) fun r10 => sRb (decide (r6.1 = 1)) r7 r8 r9 r10))) rfl fun r6 => ?_
              by_cases hy : 1 < r6.1
              · rw [if_pos hy, show decide (1 < r6.1) = true by simpa using hy, cond_true]
                exact k3b c r4.1 r5.1 (decide (r6.1 = 1)) _
              · rw [if_neg hy, show decide (1 < r6.1) = false by simpa using hy, cond_false]
                exact k3b c r4.1 r5.1 (decide (r6.1 = 1)) _
            · rw [if_neg k3, show decide (k = 3) = false by simpa using k3, cond_false]
              by_cases k6 : k = 6
              · subst k6
                rw [if_pos rfl, show decide ((6 : Int) = 6) = true from rfl, cond_true]
                refine lt_ind (fun (r4 : Int × In) => cls (⟨c, 6, r4.1, (inNum r4.2 8).1, false, [], Mail.zero⟩, (inNum r4.2 8).2)) rfl fun r4 => ?_
                exact lt_ind (fun (r5 : Int × In) => cls (⟨c, 6, r4.1, r5.1, false, [], Mail.zero⟩, r5.2)) rfl fun r5 => rfl
              · rw [if_neg k6, show decide (k = 6) = false by simpa using k6, cond_false]
                rfl
theorem l1_go {at_ : Int} {may : List Reply} {r : Bs} (hA : (feedTake (⟨[], 0⟩ : Feed) (r.take (at_ % ((r.length : Int) + 1)).toNat)).2 ++ (feedTake ((feedTake (⟨[], 0⟩ : Feed) (r.take (at_ % ((r.length : Int) + 1)).toNat)).1) (r.drop (at_ % ((r.length : Int) + 1)).toNat)).2 = may.map replyFrame)
    (hm : ∀ x ∈ may, reply_Of (replyFrame x) = (x, 0)) : ∀ (f v : Nat), v ≤ may.length → may.length < f + v → l12_ReplyBytes_l1 at_ may r f v = true
  | 0, v, h1, h2 => by omega
  | f + 1, v, h1, h2 => by
    simp only [l12_ReplyBytes_l1, hA, List.length_map, lt]
    by_cases h : v < may.length
    · have hg : gt (may.map replyFrame) v = replyFrame (gt may v) := by simp [gt, h]
      have hmem : gt may v ∈ may := by simp [gt, h]
      rw [hg, hm _ hmem]
      simp only [Int.ofNat_lt, h, decide_true, cond_true, Bool.not_true, Bool.or_self, cond_false]
      exact l1_go hA hm f (v + 1) (by omega) (by omega)
    · simp only [Int.ofNat_lt, h, decide_false, cond_false]
theorem catB_mb (l : List Reply) : catB ((mayL l).map replyFrame) = mb l := by
  simp only [catB, mb, List.flatMap_map]
theorem l0_go {l : List Reply} {at_ : Int} (h0 : 0 ≤ at_) (hw : ∀ x ∈ l, PV.wfs (Reply.pc x)) : ∀ (rest pre : List Reply), l = pre ++ rest → l12_ReplyBytes_l0 l at_ rest (mayL pre) = true
  | [], pre, e => by
    have e : l = pre := by simpa using e
    subst e
    have hp : ∀ x ∈ l, ∀ p ∈ x.mail.head, p.wf := fun x hx p hp => Pair.pwf ((hw x hx).2.2.2.2.2.2.2.2.2.1.2 p hp)
    have hk : ∀ x ∈ l, ∀ p ∈ x.mail.head, 0 ≤ p.kind := fun x hx => Reply.kd9 (hw x hx)
    have e1 : reply_Bytes l = mb l := by rw [reply_Bytes, rb_eq]; simp
    have e2 : r12_Bytes l = mb l := by rw [r12_Bytes, r12b_eq l [] hk]; simp
    simp only [l12_ReplyBytes_l0, lt, all12_eq, e1, e2, decide_true, Bool.not_true, cond_false]
    have hm0 := Int.emod_nonneg at_ (show (((mb l).length : Int) + 1) ≠ 0 by omega)
    have hm1 := Int.emod_lt_of_pos at_ (show (0 : Int) < ((mb l).length : Int) + 1 by omega)
    have hfw : ∀ x ∈ mayL l, okF (replyFrame x) := fun x hx => by
      obtain ⟨hx1, hx2⟩ := List.mem_filter.1 hx
      have h : replyE x = 0 := by simpa using hx2
      have hxw := Reply.pwf (hw x hx1)
      have hl := rOut_le h
      have e : replyFrame x = ⟨x.channel, IntKind.wrap .u8 (64 + x.kind), (replyOut x).s⟩ := if_pos h
      rw [e]
      exact ⟨⟨hxw.1, by simp [IntKind.wrap, IntKind.bits, IntKind.signed]; omega, by simp only; omega⟩, hl⟩
    have hok : ∀ x ∈ mayL l, reply_Of (replyFrame x) = (x, 0) := fun x hx => by
      obtain ⟨hx1, hx2⟩ := List.mem_filter.1 hx
      rw [reply_Of_eq (hfw x hx).1.2.1]
      exact replyOf_fwd (Reply.pwf (hw x hx1)) (hp x hx1) (by simpa using hx2)
    have hk' : (at_ % (((mb l).length : Int) + 1)).toNat ≤ (catB ((mayL l).map replyFrame)).length := by rw [catB_mb]; omega
    have ht := take_go (fs := (mayL l).map replyFrame) (fun f hf => by obtain ⟨x, hx, rfl⟩ := List.mem_map.1 hf; exact hfw x hx) hk'
    rw [catB_mb] at ht
    obtain ⟨t1, t2⟩ := ht
    rw [t1, t2]
    simp only [List.length_map, decide_true, Bool.not_true, Bool.or_self, cond_false]
    exact l1_go t1 hok _ _ (Nat.zero_le _) (by omega)
  | x :: rest, pre, e => by
    have ih := l0_go h0 hw rest (pre ++ [x]) (by rw [e]; simp)
    rw [l12_ReplyBytes_l0]
    cases lightR x
    · rfl
    · simp only [Bool.not_true, cond_false]
      by_cases h : replyE x = 0
      · simp only [h, decide_true, cond_true]
        simpa [mayL, h] using ih
      · simp only [h, decide_false, cond_false]
        simpa [mayL, h] using ih
theorem l12_bytes (l : List Reply) (at_ : Int) (h0 : 0 ≤ at_) (hw : ∀ x ∈ l, PV.wfs (Reply.pc x)) : l12_ReplyBytes l at_ = true := by
  unfold l12_ReplyBytes
  rw [show l12_awake = true by decide +kernel]
  simp only [Bool.not_true, cond_false]
  cases decide (6 < (l.length : Int))
  · exact l0_go h0 hw l [] rfl
  · rfl
end Go.SW.V
