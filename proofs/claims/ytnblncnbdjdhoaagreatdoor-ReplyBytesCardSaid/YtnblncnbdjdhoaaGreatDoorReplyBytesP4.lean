/-
  A part of the proof of ReplyBytes: The walks of this seat, printed by program: stairwellref04.letter, words.plain, words.Name. The walks of this seat, printed by program: octet.Out.Num, octet.Out.Raw, octet.Out.String, octet.Out.Text. The walks of this seat, printed by program: octet.New, octet.In.Fail, octet.In.Raw. The walks of this seat, printed by program: strings.Split, words.Split, words.key, words.Key. The walks of this seat, printed by program: api.Pair], head.Same, api.Pair], head.Find$1, head.Find, head.pair, head.Check. The walks of this seat, printed by program: deed.sameBind, deed.bit. The walks of this seat, printed by program: octet.In.Num, octet.In.Text, octet.In.Left, octet.In.Err, octet.In.End. The walks of this seat, printed by program: words.Matches, words.Pattern. The walks of this seat, printed by program: head.Bytes, head.one, head.Read. The walks of this seat, printed by program: crc.Step, crc.Sum, frame.Bytes, frame.Parse. The walks of this seat, printed by program: reply.blank, reply.Reply.spare, reply.mail, reply.Reply.Check, reply.Reply.Frame. The walks of this seat, printed by program: feed.Feed.Take, feed.Feed.Rest, feed.Feed.Err. The walks of this seat, printed by program: reply.sameMail, reply.Same. The walks of this seat, printed by program: mail.Check, mail.Bytes, draft.Life, stairwellref26.Life, deed.maybe, deed.bound, mail.Same, deed.Same. The walks of this seat, printed by program: deed.Deed.told, deed.first, deed.Deed.Check. The walks of this seat, printed by program: deed.Deed.Bytes. The walks of this seat, printed by program: stairwellref04.Name, stairwellref04.Split, stairwellref04.Key. The walks of this seat, printed by program: stairwellref09.Pair, stairwellref09.Check, stairwellref09.Same, stairwellref12.tellsN, stairwellref12.tellsM. The walks of this seat, printed by program: stairwelllaw09.Light, stairwelllaw12.Light, stairwelllaw12.To, stairwelllaw13.Light, stairwelllaw22.Light, stairwelllaw14.To, stairwelllaw22.To. The walks of this seat, printed by program: stairwellref13.Same, stairwellref14.SameBind, stairwellref22.Same, stairwellref22.names, stairwellref22.maybe, stairwellref22.spare, stairwellref22.checkBind, stairwellref13.Check, stairwellref22.Check. The walks of this seat, printed by program: match.Rule.Check, match.Rule.heads, match.Rule.Goes, match.Same. The walks of this seat, printed by program: slices.Equal[[]string,string], slices.Index[[]string,string], slices.Contains[[]string,string], route.Shop.check, route.Book.Shop. The walks of this seat, printed by program: route.Bind.rule, route.Bind.same, api.Pair], route.Bind.clone, route.Bind]. The walks of this seat, printed by program: stairwelllaw01.awake, stairwelllaw01.Awake, stairwelllaw04.awake, stairwelllaw04.Awake, stairwelllaw09.awake, stairwelllaw09.Awake, stairwelllaw10.awake, stairwelllaw10.Awake, stairwelllaw13.awake, stairwelllaw13.Awake. The walks of this seat, printed by program: stairwelllaw02.awake, stairwelllaw02.Awake, stairwelllaw07.awake, stairwelllaw
-/
import Derived.Test.YtnblncnbdjdhoaaGreatDoorProg
import Derived.Test.YtnblncnbdjdhoaaGreatDoorReplyBytesP3
import Derived.KernelRfl
import Derived.Test.YtnblncnbdjdhoaaGreatDoorReplyBytesP2
set_option linter.unusedVariables false
set_option linter.unusedSimpArgs false
set_option linter.unusedVariables false
set_option maxRecDepth 100000
set_option maxHeartbeats 4000000
namespace Go.SW.V
open Go.SW Go.Proofs
def gb : Gb := ⟨fun H => GInt H 2 ∧ GTab H 1 laidT, fun H H' hl h => ⟨h.1.mono hl, h.2.mono hl⟩⟩
theorem gbML {H : Hp} (h : gb.p H) : GInt H 2 := h.1
theorem gbCrc {H : Hp} (h : gb.p H) : GTab H 1 laidT := h.2
theorem cb105 : Callable Tryz.prog 105 := callable_of Tryz.func105 (by kernel_rfl) (by kernel_rfl)
theorem cb138 : Callable Tryz.prog 138 := callable_of Tryz.func138 (by kernel_rfl) (by kernel_rfl)
theorem cb186 : Callable Tryz.prog 186 := callable_of Tryz.func186 (by kernel_rfl) (by kernel_rfl)
def tbv1 : Tb := [(9, ⟨.str, 1, 16, [.str []]⟩)]
theorem tbv1ok : tbB Tryz.prog tbv1 = true := by kernel_rfl
theorem r4_letter (c : Int) : Fn Tryz.prog gb 105 [.int .u8 c] (.bool (letter c)) := by
  refine fn_cw tbv1ok Tryz.func105 rfl Tryz.ntmps105 rfl cb105 rfl rfl fun w N H hG => ?_
  have c_r : 0 ≤ c ∧ c ≤ 255 := w.1
  refine go tbv1ok 33 rfl rfl ⟨(fun hc => hc), rfl, rfl, (fun hc => hc), (fun hc => hc), (fun hc => hc), (fun hc => hc), (fun hc => (by rw [hc]; rfl)), (fun hc => rfl), rfl, rfl, (fun hc => hc), rfl, rfl, (fun hc => hc), rfl, rfl, trivial⟩ ?_
  refine rt1 rfl rfl ?_
  refine ple ?_
  simp [letter, *]
theorem words_plain (s : Bs) : Fn Tryz.prog gb 186 [.str s] (.bool (plain s)) := by
  refine fn_cw tbv1ok Tryz.func186 rfl Tryz.ntmps186 rfl cb186 rfl rfl fun w N H hG => ?_
  have s_l : s.length ≤ 9223372036854775807 := w.1
  refine go tbv1ok 14 rfl rfl trivial ?_
  refine loop (ι := Nat) [0, 5, 6] [] (fun k => [(7, .int .i64 (k : Int))]) (fun k => []) (fun k => k ≤ s.length ∧ (s.drop k).all (fun c => letter c.toNat) = plain s) (fun k => s.length - k) 0 ⟨rfl, trivial⟩ trivial ?_ ?_
  · exact ⟨by omega, rfl⟩
  · rintro k hp1
    obtain ⟨hk1, hk2⟩ := hp1
    refine go tbv1ok 6 rfl rfl trivial ?_
    refine cnd rfl (fun h2 => ?_) (fun h2 => ?_)
    · have p3 := dt h2
      have := u8r (s.getD k 0)
      refine go tbv1ok 14 rfl rfl trivial ?_
      refine q1 (sidx tbv1ok k rfl rfl rfl rfl rfl (by omega)) rfl fun w4 => ?_
      refine go tbv1ok 16 rfl rfl ⟨(fun hc => hc), rfl, rfl, trivial⟩ ?_
      refine cnd rfl (fun h5 => ?_) (fun h5 => ?_)
      · have h6 := bl h5
        have p7 := dt h6
        have h8 := br h5
        have p9 := dt h8
        refine go tbv1ok 2 rfl rfl trivial ?_
        refine cndT rfl h5 ?_
        refine go tbv1ok 8 rfl rfl ⟨(by omega), trivial⟩ ?_
        refine next (k + 1) rfl rfl ⟨rfl, trivial⟩ trivial ?_ ?_
        · omega
        · exact ⟨by omega, by rw [← hk2, drop_getD (k := k) (by omega), List.all_cons]; generalize ((s.getD k 0).toNat : Int) = z at *; simp [letter, *]⟩
      · refine go tbv1ok 11 rfl rfl ⟨(fun hc => hc), rfl, rfl, trivial⟩ ?_
        refine cnd rfl (fun h10 => ?_) (fun h10 => ?_)
        · have h11 := bl h10
          have p12 := dt h11
          have h13 := br h10
          have p14 := dt h13
          refine go tbv1ok 2 rfl rfl trivial ?_
          refine cndT rfl h10 ?_
          refine go tbv1ok 8 rfl rfl ⟨(by omega), trivial⟩ ?_
          refine next (k + 1) rfl rfl ⟨rfl, trivial⟩ trivial ?_ ?_
          · omega
          · exact ⟨by omega, by rw [← hk2, drop_getD (k := k) (by omega), List.all_cons]; generalize ((s.getD k 0).toNat : Int) = z at *; simp [letter, *]⟩
        · refine go tbv1ok 7 rfl rfl trivial ?_
          refine cnd rfl (fun h15 => ?_) (fun h15 => ?_)
          · have p16 := dt h15
            refine go tbv1ok 2 rfl rfl trivial ?_
            refine cndT rfl h15 ?_
            refine go tbv1ok 8 rfl rfl ⟨(by omega), trivial⟩ ?_
            refine next (k + 1) rfl rfl ⟨rfl, trivial⟩ trivial ?_ ?_
            · omega
            · exact ⟨by omega, by rw [← hk2, drop_getD (k := k) (by omega), List.all_cons]; generalize ((s.getD k 0).toNat : Int) = z at *; simp [letter, *]⟩
          · have p17 := df h15
            refine go tbv1ok 6 rfl rfl trivial ?_
            refine cnd rfl (fun h18 => ?_) (fun h18 => ?_)
            · have p19 := dt h18
              refine go tbv1ok 8 rfl rfl ⟨(by omega), trivial⟩ ?_
              refine next (k + 1) rfl rfl ⟨rfl, trivial⟩ trivial ?_ ?_
              · omega
              · exact ⟨by omega, by rw [← hk2, drop_getD (k := k) (by omega), List.all_cons]; generalize ((s.getD k 0).toNat : Int) = z at *; simp [letter, *]⟩
            · have p20 := df h18
              refine go tbv1ok 12 rfl rfl trivial ?_
              refine rt1 rfl rfl ?_
              refine ple ?_
              refine congrArg PV.bool ?_; first | (rw [← hk2, drop_getD (k := k) (by omega), List.all_cons]; generalize ((s.getD k 0).toNat : Int) = z at *; simp [letter, *]; done) | (rw [← hk2, List.drop_of_length_le (by omega)]; rfl)
    · have p21 := df h2
      refine go tbv1ok 11 rfl rfl trivial ?_
      refine rt1 rfl rfl ?_
      refine ple ?_
      refine congrArg PV.bool ?_; first | (rw [← hk2, drop_getD (k := k) (by omega), List.all_cons]; generalize ((s.getD k 0).toNat : Int) = z at *; simp [letter, *]; done) | (rw [← hk2, List.drop_of_length_le (by omega)]; rfl)
theorem words_Name (s : Bs) : Fn Tryz.prog gb 138 [.str s] (.int .i64 (nameE s)) := by
  refine fn_cw tbv1ok Tryz.func138 rfl Tryz.ntmps138 rfl cb138 rfl rfl fun w N H hG => ?_
  have s_l : s.length ≤ 9223372036854775807 := w.1
  refine go tbv1ok 14 rfl rfl trivial ?_
  refine cnd rfl (fun h1 => ?_) (fun h1 => ?_)
  · have p2 := dt h1
    refine go tbv1ok 8 rfl rfl trivial ?_
    refine rt1 rfl rfl ?_
    refine ple ?_
    simp [nameE, *] <;> omega
  · have p3 := df h1
    refine go tbv1ok 8 rfl rfl trivial ?_
    refine cnd rfl (fun h4 => ?_) (fun h4 => ?_)
    · have p5 := dt h4
      refine go tbv1ok 8 rfl rfl trivial ?_
      refine rt1 rfl rfl ?_
      refine ple ?_
      simp [nameE, *] <;> omega
    · have p6 := df h4
      refine go tbv1ok 3 rfl rfl trivial ?_
      refine call (words_plain _) rfl rfl fun w7 => ?_
      refine go tbv1ok 4 rfl rfl trivial ?_
      refine cnd rfl (fun h8 => ?_) (fun h8 => ?_)
      · have h9 := not_t h8
        refine go tbv1ok 8 rfl rfl trivial ?_
        refine rt1 rfl rfl ?_
        refine ple ?_
        simp [nameE, *] <;> omega
      · have h10 := not_f h8
        refine go tbv1ok 9 rfl rfl trivial ?_
        refine rt1 rfl rfl ?_
        refine ple ?_
        simp [nameE, *] <;> omega
end Go.SW.V
set_option linter.unusedVariables false
set_option maxRecDepth 100000
set_option maxHeartbeats 4000000
namespace Go.SW.V
open Go.SW Go.Proofs
theorem cb116 : Callable Tryz.prog 116 := callable_of Tryz.func116 (by kernel_rfl) (by kernel_rfl)
theorem cb117 : Callable Tryz.prog 117 := callable_of Tryz.func117 (by kernel_rfl) (by kernel_rfl)
theorem cb119 : Callable Tryz.prog 119 := callable_of Tryz.func119 (by kernel_rfl) (by kernel_rfl)
theorem cb120 : Callable Tryz.prog 120 := callable_of Tryz.func120 (by kernel_rfl) (by kernel_rfl)
def tbv2 : Tb := [(3, ⟨.int .i64, 1, 8, [.int .i64 0]⟩),
  (9, ⟨.str, 1, 16, [.str []]⟩),
  (25, ⟨.int .u64, 1, 8, [.int .u64 0]⟩),
  (39, ⟨.int .i64, 1, 8, [.int .i64 0]⟩),
  (219, ⟨.agg [(0, 1), (1, 1)], 2, 24, [.str [], .int .i64 0]⟩)]
theorem tbv2ok : tbB Tryz.prog tbv2 = true := by kernel_rfl
theorem out_Num (o : Out) (n bytes : Int) (hlen : o.s.length ≤ 4611686018427387904) : Fn Tryz.prog gb 117 [.agg (Out.pc o), .int .u64 n, .int .i64 bytes] (.agg (Out.pc (outNum o n bytes))) :=
  fn_of_pr (vs := [.agg [str o.s, .int .i64 o.err].toArray, .int .u64 n, .int .i64 bytes]) (v := .agg [str (outNum o n bytes).s, .int .i64 (outNum o n bytes).err].toArray) cb117 rfl rfl
    (fun w H => Sims.cons (Sim.toAgg (Sims.cons (Sim.str w.1.1) (Sims.cons (Sim.int w.1.2.1.1 w.1.2.1.2) Sims.nil))) (Sims.cons (Sim.int w.2.1.1 w.2.1.2) (Sims.cons (Sim.int w.2.2.1.1 w.2.2.1.2) Sims.nil)))
    (fun w H => Sim.toAgg (Sims.cons (Sim.str (by have := outNum_len o n bytes; omega)) (Sims.cons (Sim.int w.1.2.1.1 w.1.2.1.2) Sims.nil)))
    (fun w H hG => SW.out_Num H o n w.2.1 bytes w.2.2.1 hlen)
theorem out_Raw (o : Out) (s : Bs) (hlen : o.s.length + s.length ≤ 4611686018427387904) : Fn Tryz.prog gb 119 [.agg (Out.pc o), .str s] (.agg (Out.pc (outRaw o s))) := by
  refine fn_cw tbv2ok Tryz.func119 rfl Tryz.ntmps119 rfl cb119 rfl rfl fun w N H hG => ?_
  have s_l : s.length ≤ 9223372036854775807 := w.2.1
  refine go tbv2ok 2 rfl rfl trivial ?_
  refine ef (boxA 0 rfl rfl rfl fun b1 => ?_)
  refine ef (alloc tbv2ok 1 rfl rfl rfl rfl fun b2 => ?_)
  refine go tbv2ok 9 rfl rfl ⟨(by first | omega | (simp <;> omega)), trivial⟩ ?_
  refine ef (store1 tbv2ok rfl rfl rfl rfl rfl rfl rfl rfl rfl ?_)
  refine go tbv2ok 5 rfl rfl trivial ?_
  refine ef (storeA tbv2ok rfl rfl rfl rfl rfl rfl rfl rfl rfl rfl ?_)
  refine go tbv2ok 3 rfl rfl trivial ?_
  refine rt1 rfl rfl ?_
  refine ple ?_
  rfl
theorem out_String (o : Out) : Fn Tryz.prog gb 120 [.agg (Out.pc o)] (.str o.s) := by
  refine fn_cw tbv2ok Tryz.func120 rfl Tryz.ntmps120 rfl cb120 rfl rfl fun w N H hG => ?_
  refine go tbv2ok 2 rfl rfl trivial ?_
  refine ef (boxA 0 rfl rfl rfl fun b1 => ?_)
  refine go tbv2ok 11 rfl rfl trivial ?_
  refine rt1 rfl rfl ?_
  refine ple ?_
  rfl
theorem out_Text (o : Out) (s : Bs) (hlen : o.s.length + s.length ≤ 4611686018427386000) : Fn Tryz.prog gb 116 [.agg (Out.pc o), .str s] (.agg (Out.pc (outText o s))) := by
  refine fn_cw tbv2ok Tryz.func116 rfl Tryz.ntmps116 rfl cb116 rfl rfl fun w N H hG => ?_
  have s_l : s.length ≤ 9223372036854775807 := w.2.1
  refine go tbv2ok 2 rfl rfl trivial ?_
  refine ef (boxA 0 rfl rfl rfl fun b1 => ?_)
  refine ef (alloc tbv2ok 1 rfl rfl rfl rfl fun b2 => ?_)
  refine go tbv2ok 10 rfl rfl trivial ?_
  refine cnd rfl (fun h3 => ?_) (fun h3 => ?_)
  · have p4 := dt h3
    refine go tbv2ok 8 rfl rfl trivial ?_
    refine cnd rfl (fun h5 => ?_) (fun h5 => ?_)
    · have p6 := dt h5
      refine go tbv2ok 2 rfl rfl trivial ?_
      refine ef (store1 tbv2ok rfl rfl rfl rfl rfl rfl rfl rfl rfl ?_)
      refine go tbv2ok 5 rfl rfl trivial ?_
      refine ef (storeA tbv2ok rfl rfl rfl rfl rfl rfl rfl rfl rfl rfl ?_)
      refine go tbv2ok 4 rfl rfl trivial ?_
      refine rt1 rfl rfl ?_
      refine ple ?_
      simp [outText, Out.pc, *]
    · have p7 := df h5
      refine go tbv2ok 5 rfl rfl trivial ?_
      refine ef (storeA tbv2ok rfl rfl rfl rfl rfl rfl rfl rfl rfl rfl ?_)
      refine go tbv2ok 4 rfl rfl trivial ?_
      refine rt1 rfl rfl ?_
      refine ple ?_
      simp [outText, Out.pc, *]
  · have p8 := df h3
    refine go tbv2ok 7 rfl rfl trivial ?_
    refine q1 (qconv tbv2ok rfl rfl rfl rfl (rg_u64 (by omega))) rfl fun w9 => ?_
    refine call (out_Num _ _ _ (by first | omega | (have := hrl (by assumption); omega) | (simp [outNum, outRaw, numB_len, numK] <;> omega) | (have := hrl (by assumption); simp [outNum, outRaw, numB_len, numK] <;> omega))) rfl rfl fun w10 => ?_
    have := outNum_len o (s.length : Int) 2
    refine go tbv2ok 1 rfl rfl trivial ?_
    refine call (out_Raw _ _ (by first | omega | (have := hrl (by assumption); omega) | (simp [outNum, outRaw, numB_len, numK] <;> omega) | (have := hrl (by assumption); simp [outNum, outRaw, numB_len, numK] <;> omega))) rfl rfl fun w11 => ?_
    have := outRaw_len (outNum o (s.length : Int) 2) s
    refine ef (storeA tbv2ok rfl rfl rfl rfl rfl rfl rfl rfl rfl rfl ?_)
    refine go tbv2ok 3 rfl rfl trivial ?_
    refine rt1 rfl rfl ?_
    refine ple ?_
    simp [outText, Out.pc, *]
end Go.SW.V
set_option linter.unusedVariables false
set_option maxRecDepth 100000
set_option maxHeartbeats 4000000
namespace Go.SW.V
open Go.SW Go.Proofs
theorem cb134 : Callable Tryz.prog 134 := callable_of Tryz.func134 (by kernel_rfl) (by kernel_rfl)
theorem cb182 : Callable Tryz.prog 182 := callable_of Tryz.func182 (by kernel_rfl) (by kernel_rfl)
theorem cb63 : Callable Tryz.prog 63 := callable_of Tryz.func63 (by kernel_rfl) (by kernel_rfl)
def tbv3 : Tb := [(9, ⟨.str, 1, 16, [.str []]⟩),
  (39, ⟨.int .i64, 1, 8, [.int .i64 0]⟩),
  (237, ⟨.agg [(0, 1), (1, 1)], 2, 24, [.str [], .int .i64 0]⟩)]
theorem tbv3ok : tbB Tryz.prog tbv3 = true := by kernel_rfl
theorem octet_New (s : Bs) : Fb Tryz.prog gb 63 [.str s] 237 (In.pc (⟨s, 0⟩)) := by
  refine fb_cw tbv3ok Tryz.func63 rfl Tryz.ntmps63 rfl cb63 rfl rfl fun w N H hG => ?_
  have s_l : s.length ≤ 9223372036854775807 := w.1
  refine go tbv3ok 9 rfl rfl trivial ?_
  refine ef (boxA 0 rfl rfl rfl fun b1 => ?_)
  refine go tbv3ok 4 rfl rfl trivial ?_
  refine rb rfl rfl rfl rfl rfl ?_
  exact ples_rfl
theorem in_Fail (i : In) (code : Int) : Fm Tryz.prog gb 134 [.int .i64 code] 237 (In.pc i) (.tup []) (In.pc (inFail i code)) := by
  refine fm_cw tbv3ok Tryz.func134 rfl Tryz.ntmps134 rfl cb134 rfl rfl rfl rfl fun w wp b N H hG => ?_
  have code_r : -9223372036854775808 ≤ code ∧ code ≤ 9223372036854775807 := w.1
  refine go tbv3ok 3 rfl rfl trivial ?_
  refine q1 (qpne Tryz.underlying156 rfl rfl) rfl fun w1 => ?_
  refine go tbv3ok 13 rfl rfl ⟨(fun hc => hc), (fun hc => hc), (fun hc => hc), (fun hc => hc), rfl, rfl, (fun hc => hc), rfl, rfl, trivial⟩ ?_
  refine cnd rfl (fun h2 => ?_) (fun h2 => ?_)
  · have h3 := bl h2
    have h4 := bl h3
    have h5 := br h3
    have p6 := dt h5
    have h7 := br h2
    have h8 := not_t h7
    have p9 := df h8
    refine go tbv3ok 6 rfl rfl trivial ?_
    refine ef (store1 tbv3ok rfl rfl rfl rfl rfl rfl rfl rfl rfl ?_)
    refine go tbv3ok 2 rfl rfl trivial ?_
    refine ef (store1 tbv3ok rfl rfl rfl rfl rfl rfl rfl rfl rfl ?_)
    refine go tbv3ok 1 rfl rfl trivial ?_
    refine rm0n rfl rfl ?_ rfl rfl rfl ?_
    · exact ple (by first | rfl | (simp [inFail, *]; done))
    · refine ples ?_
      first | rfl | (simp [inFail, In.pc, *]; done) | (simp only [inFail]; split <;> simp_all [In.pc])
  · refine go tbv3ok 1 rfl rfl trivial ?_
    refine rm0n rfl rfl ?_ rfl rfl rfl ?_
    · exact ple (by first | rfl | (simp [inFail, *]; done))
    · refine ples ?_
      first | rfl | (simp [inFail, In.pc, *]; done) | (simp only [inFail]; split <;> simp_all [In.pc])
theorem in_Raw (i : In) (n : Int) : Fm Tryz.prog gb 182 [.int .i64 n] 237 (In.pc i) (.str ((inRaw i n).1)) (In.pc ((inRaw i n).2)) := by
  refine fm_cw tbv3ok Tryz.func182 rfl Tryz.ntmps182 rfl cb182 rfl rfl rfl rfl fun w wp b N H hG => ?_
  have n_r : -9223372036854775808 ≤ n ∧ n ≤ 9223372036854775807 := w.1
  refine go tbv3ok 11 rfl rfl trivial ?_
  refine q1 (qpeq Tryz.underlying156 rfl rfl) rfl fun w1 => ?_
  refine go tbv3ok 14 rfl rfl trivial ?_
  refine cnd rfl (fun h2 => ?_) (fun h2 => ?_)
  · have h3 := not_t h2
    have p4 := df h3
    refine go tbv3ok 2 rfl rfl trivial ?_
    refine cndT rfl h2 ?_
    refine go tbv3ok 8 rfl rfl trivial ?_
    refine rm1 rfl rfl ?_ rfl rfl rfl ?_
    · exact ple (by first | rfl | (simp [inRaw, inFail, *]; done))
    · refine ples ?_
      first | rfl | (simp [inRaw, inFail, In.pc, *]; done) | (simp only [inRaw, inFail]; split <;> simp_all [In.pc])
  · have h5 := not_f h2
    have p6 := dt h5
    refine go tbv3ok 6 rfl rfl trivial ?_
    refine cnd rfl (fun h7 => ?_) (fun h7 => ?_)
    · have p8 := dt h7
      refine go tbv3ok 8 rfl rfl trivial ?_
      refine rm1 rfl rfl ?_ rfl rfl rfl ?_
      · exact ple (by first | rfl | (simp [inRaw, inFail, *]; done))
      · refine ples ?_
        first | rfl | (simp [inRaw, inFail, In.pc, *]; done) | (simp only [inRaw, inFail]; split <;> simp_all [In.pc])
    · have p9 := df h7
      refine go tbv3ok 12 rfl rfl trivial ?_
      refine cnd rfl (fun h10 => ?_) (fun h10 => ?_)
      · have p11 := dt h10
        refine go tbv3ok 3 rfl rfl trivial ?_
        refine ef (ecallm (in_Fail _ _) rfl rfl rfl rfl rfl fun w12 w12p => ?_)
        refine go tbv3ok 10 rfl rfl trivial ?_
        refine rm1 rfl rfl ?_ rfl rfl rfl ?_
        · exact ple (by first | rfl | (simp [inRaw, inFail, *]; done))
        · refine ples ?_
          first | rfl | (simp [inRaw, inFail, In.pc, *]; done) | (simp only [inRaw, inFail]; split <;> simp_all [In.pc])
      · have p13 := df h10
        refine go tbv3ok 10 rfl rfl trivial ?_
        refine q1 (sshi tbv3ok (n).toNat rfl rfl rfl rfl (by omega) (by omega)) rfl fun w14 => ?_
        refine go tbv3ok 11 rfl rfl trivial ?_
        refine q1 (sslo tbv3ok (n).toNat rfl rfl rfl rfl (by omega) (by omega)) rfl fun w15 => ?_
        refine go tbv3ok 2 rfl rfl trivial ?_
        refine ef (store1 tbv3ok rfl rfl rfl rfl rfl rfl rfl rfl rfl ?_)
        refine go tbv3ok 9 rfl rfl trivial ?_
        refine rm1 rfl rfl ?_ rfl rfl rfl ?_
        · exact ple (by first | rfl | (simp [inRaw, inFail, *]; done))
        · refine ples ?_
          first | rfl | (simp [inRaw, inFail, In.pc, *]; done) | (simp only [inRaw, inFail]; split <;> simp_all [In.pc])
end Go.SW.V
set_option linter.unusedVariables false
set_option maxRecDepth 100000
set_option maxHeartbeats 4000000
namespace Go.SW.V
open Go.SW Go.Proofs
theorem cb187 : Callable Tryz.prog 187 := callable_of Tryz.func187 (by kernel_rfl) (by kernel_rfl)
theorem cb221 : Callable Tryz.prog 221 := callable_of Tryz.func221 (by kernel_rfl) (by kernel_rfl)
theorem cb249 : Callable Tryz.prog 249 := callable_of Tryz.func249 (by kernel_rfl) (by kernel_rfl)
theorem cb265 : Callable Tryz.prog 265 := callable_of Tryz.func265 (by kernel_rfl) (by kernel_rfl)
def tbv4 : Tb := [(9, ⟨.str, 1, 16, [.str []]⟩),
  (225, ⟨.slc 9, 1, 24, [.sl strc []]⟩)]
theorem tbv4ok : tbB Tryz.prog tbv4 = true := by kernel_rfl
theorem strings_Split (s p : Bs) (hp : p = [46]) (hs : s.length < 4294967281) : Fn Tryz.prog gb 265 [.str s, .str p] (.sl strc (dots s)) :=
  ⟨cb265, rfl, fun N H L w us hg hsim hm => by
    obtain ⟨v1, _, rfl, h1, h2⟩ := hsim.inv_cons
    obtain ⟨v2, _, rfl, h3, h4⟩ := h2.inv_cons
    cases h4.inv_nil
    rw [h1.inv_str.1, h3.inv_str.1]
    refine (SW.strings_Split H s p hp (gbML hg) hs N L w hm).mono fun _ _ ⟨v, H', h5, ⟨a, c, h6, h7⟩, h8, h9⟩ => ⟨v, H', h5, ?_, h8, h9⟩
    rw [h6]
    exact Sim.of_slh (k := 1) ⟨h7.1, fun m hm => by
      obtain ⟨cs, hE, hat⟩ := h7.2 m hm
      obtain ⟨hE1, hE2⟩ := hE
      subst hE1
      exact ⟨_, ⟨rfl, Sims.nil.cons (Sim.str hE2), fun u hu => by simp at hu; subst hu; rfl⟩, hat⟩⟩ (by have := dots_le s; omega)⟩
theorem words_Split (s : Bs) (hs : s.length < 4294967281) : Fn Tryz.prog gb 249 [.str s] (.sl strc (wordsOf s)) := by
  refine fn_cw tbv4ok Tryz.func249 rfl Tryz.ntmps249 rfl cb249 rfl rfl fun w N H hG => ?_
  have s_l : s.length ≤ 9223372036854775807 := w.1
  refine go tbv4ok 12 rfl rfl trivial ?_
  refine cnd rfl (fun h1 => ?_) (fun h1 => ?_)
  · have p2 := dt h1
    refine go tbv4ok 7 rfl rfl trivial ?_
    refine rt1 rfl rfl ?_
    refine ple_nilx ?_
    simp [wordsOf, *]
  · have p3 := df h1
    refine go tbv4ok 5 rfl rfl trivial ?_
    refine call (strings_Split _ _ (by rfl) (by omega)) rfl rfl fun w4 => ?_
    refine go tbv4ok 4 rfl rfl trivial ?_
    refine rt1 rfl rfl ?_
    refine ple ?_
    simp [wordsOf, *]
theorem words_key (s : Bs) (besides : List Bs) : Fn Tryz.prog gb 221 [.str s, .sl strc besides] (.int .i64 (keyE besides s)) := by
  refine fn_cw tbv4ok Tryz.func221 rfl Tryz.ntmps221 rfl cb221 rfl rfl fun w N H hG => ?_
  have s_l : s.length ≤ 9223372036854775807 := w.1
  have besides_l : besides.length ≤ 140737488355328 := w.2.1.1
  refine go tbv4ok 14 rfl rfl trivial ?_
  refine cnd rfl (fun h1 => ?_) (fun h1 => ?_)
  · have p2 := dt h1
    refine go tbv4ok 8 rfl rfl trivial ?_
    refine rt1 rfl rfl ?_
    refine ple ?_
    simp [keyE, *]
  · have p3 := df h1
    refine go tbv4ok 9 rfl rfl trivial ?_
    refine call (words_Split _ (by omega)) rfl rfl fun w4 => ?_
    refine go tbv4ok 5 rfl rfl trivial ?_
    refine loop (ι := Nat) [0, 1, 9, 10, 11, 12, 13, 14] [] (fun k => [(15, .int .i64 (k : Int))]) (fun k => []) (fun k => k ≤ (wordsOf s).length ∧ (wordsOf s).any (isBad besides) = ((wordsOf s).drop k).any (isBad besides)) (fun k => (wordsOf s).length - k) 0 ⟨rfl, trivial⟩ trivial ?_ ?_
    · exact ⟨Nat.zero_le _, by simp⟩
    · rintro k hp5
      obtain ⟨hk1, hk2⟩ := hp5
      have hwl := words_le s
      refine go tbv4ok 6 rfl rfl trivial ?_
      refine cnd rfl (fun h6 => ?_) (fun h6 => ?_)
      · have p7 := dt h6
        obtain ⟨c8, hc9⟩ := getE (xs := wordsOf s) (m := k) (by omega)
        have c8_l : c8.length ≤ 9223372036854775807 := (w4.2 c8 (List.mem_of_getElem? hc9)).1
        refine go tbv4ok 6 rfl rfl trivial ?_
        refine q1 (qidx tbv4ok k rfl rfl rfl hc9 rfl rfl rfl rfl) rfl fun w10 => ?_
        refine go tbv4ok 13 rfl rfl trivial ?_
        refine loop (ι := Nat) [0, 1, 6, 9, 10, 11, 12, 13, 14, 15, 16, 17, 18, 19, 20] [] (fun j => [(21, .int .i64 (j : Int))]) (fun j => []) (fun j => j ≤ besides.length ∧ besides.contains c8 = (besides.drop j).contains c8) (fun j => besides.length - j) 0 ⟨rfl, trivial⟩ trivial ?_ ?_
        · exact ⟨Nat.zero_le _, by simp⟩
        · rintro j hp11
          obtain ⟨hj1, hj2⟩ := hp11
          refine go tbv4ok 6 rfl rfl trivial ?_
          refine cnd rfl (fun h12 => ?_) (fun h12 => ?_)
          · have p13 := dt h12
            obtain ⟨c14, hc15⟩ := getE (xs := besides) (m := j) (by omega)
            have c14_l : c14.length ≤ 9223372036854775807 := (w.2.1.2 c14 (List.mem_of_getElem? hc15)).1
            refine go tbv4ok 6 rfl rfl trivial ?_
            refine q1 (qidx tbv4ok j rfl rfl rfl hc15 rfl rfl rfl rfl) rfl fun w16 => ?_
            refine go tbv4ok 11 rfl rfl trivial ?_
            refine cnd rfl (fun h17 => ?_) (fun h17 => ?_)
            · have p18 := dt h17
              refine go tbv4ok 12 rfl rfl ⟨(by omega), trivial⟩ ?_
              refine next (k + 1) rfl rfl ⟨rfl, trivial⟩ trivial ?_ ?_
              · omega
              · refine ⟨by omega, ?_⟩
                rw [hk2, dropE hc9, List.any_cons]
                have hb : isBad besides c8 = false := by
                  unfold isBad
                  rw [hj2, dropE hc15]
                  first | (simp [*]; done) | simp_all
                simp [hb]
            · have p19 := df h17
              refine go tbv4ok 7 rfl rfl ⟨(by omega), trivial⟩ ?_
              refine next (j + 1) rfl rfl ⟨rfl, trivial⟩ trivial ?_ ?_
              · omega
              · refine ⟨by omega, ?_⟩
                rw [hj2, dropE hc15, List.contains_cons]
                simp [*]
          · have p20 := df h12
            refine go tbv4ok 11 rfl rfl trivial ?_
            refine callg rfl (fun hc => (words_plain _)) rfl ⟨(fun hc => hc), trivial⟩ rfl rfl fun _ => ?_
            refine go tbv4ok 4 rfl rfl ⟨(fun hc => hc), rfl, rfl, trivial⟩ ?_
            refine cnd rfl (fun h21 => ?_) (fun h21 => ?_)
            · refine go tbv4ok 12 rfl rfl trivial ?_
              refine rt1 rfl rfl ?_
              refine ple ?_
              have hb : isBad besides c8 = true := by
                unfold isBad
                rw [hj2, List.drop_of_length_le (by omega)]
                first | (simp [*]; done) | simp_all
              unfold keyE
              rw [if_neg (by omega), hk2, dropE hc9, List.any_cons, hb]
              rfl
            · have h22 := orl h21
              have p23 := df h22
              have h24 := orr h21
              have h25 := not_f h24
              refine go tbv4ok 7 rfl rfl ⟨(by omega), trivial⟩ ?_
              refine next (k + 1) rfl rfl ⟨rfl, trivial⟩ trivial ?_ ?_
              · omega
              · refine ⟨by omega, ?_⟩
                rw [hk2, dropE hc9, List.any_cons]
                have hb : isBad besides c8 = false := by
                  unfold isBad
                  rw [hj2, List.drop_of_length_le (by omega)]
                  first | (simp [*]; done) | simp_all
                simp [hb]
      · have p26 := df h6
        refine go tbv4ok 12 rfl rfl trivial ?_
        refine rt1 rfl rfl ?_
        refine ple ?_
        unfold keyE
        rw [if_neg (by omega), hk2, List.drop_of_length_le (by omega)]
        rfl
theorem words_Key (s : Bs) : Fn Tryz.prog gb 187 [.str s] (.int .i64 (keyE [] s)) := by
  refine fn_cw tbv4ok Tryz.func187 rfl Tryz.ntmps187 rfl cb187 rfl rfl fun w N H hG => ?_
  have s_l : s.length ≤ 9223372036854775807 := w.1
  refine go tbv4ok 8 rfl rfl trivial ?_
  refine call (Fn.le (words_key _ []) (ples_cons (ple rfl) (ples_cons ple_nil ples_nil)) (ple rfl) rfl) rfl rfl fun w1 => ?_
  refine go tbv4ok 4 rfl rfl trivial ?_
  refine rt1 rfl rfl ?_
  refine ple ?_
  rfl
end Go.SW.V
set_option linter.unusedVariables false
set_option maxRecDepth 100000
set_option maxHeartbeats 4000000
namespace Go.SW.V
open Go.SW Go.Proofs
theorem ag2 : Ag Tryz.prog 2 false := fun w => by kernel_rfl
theorem ag5 : Ag Tryz.prog 5 false := fun w => by kernel_rfl
theorem ag9 : Ag Tryz.prog 9 false := fun w => by kernel_rfl
theorem cb103 : Callable Tryz.prog 103 := callable_of Tryz.func103 (by kernel_rfl) (by kernel_rfl)
theorem cb163 : Callable Tryz.prog 163 := callable_of Tryz.func163 (by kernel_rfl) (by kernel_rfl)
theorem cb175 : Callable Tryz.prog 175 := callable_of Tryz.func175 (by kernel_rfl) (by kernel_rfl)
theorem cb184 : Callable Tryz.prog 184 := callable_of Tryz.func184 (by kernel_rfl) (by kernel_rfl)
theorem cb220 : Callable Tryz.prog 220 := callable_of Tryz.func220 (by kernel_rfl) (by kernel_rfl)
theorem cb247 : Callable Tryz.prog 247 := callable_of Tryz.func247 (by kernel_rfl) (by kernel_rfl)
theorem cb248 : Callable Tryz.prog 248 := callable_of Tryz.func248 (by kernel_rfl) (by kernel_rfl)
theorem eqg224 : Tryz.prog.eqGuardType Tryz.prog.depth 224 = false := by kernel_rfl
theorem mixd : Tryz.prog.follows .mixedOrders = true := by kernel_rfl
theorem veq224 (p q : Pair) : ∀ (H : Hp) (vs us : List Value), Sims H (Pair.pc p) vs → Sims H (Pair.pc q) us → EqV Tryz.prog 10000 224 (.agg vs.toArray) (.agg us.toArray) (decide (p = q)) := by
  intro H vs us hv hu
  obtain ⟨_, _, rfl, v0, v_0⟩ := hv.inv_cons
  obtain ⟨_, _, rfl, v1, v_1⟩ := v_0.inv_cons
  obtain ⟨_, _, rfl, v2, v_2⟩ := v_1.inv_cons
  obtain ⟨_, _, rfl, v3, v_3⟩ := v_2.inv_cons
  cases v_3.inv_nil
  cases v0.inv_str.1; cases v1.inv_int.1; cases v2.inv_int.1; cases v3.inv_str.1
  obtain ⟨_, _, rfl, u0, u_0⟩ := hu.inv_cons
  obtain ⟨_, _, rfl, u1, u_1⟩ := u_0.inv_cons
  obtain ⟨_, _, rfl, u2, u_2⟩ := u_1.inv_cons
  obtain ⟨_, _, rfl, u3, u_3⟩ := u_2.inv_cons
  cases u_3.inv_nil
  cases u0.inv_str.1; cases u1.inv_int.1; cases u2.inv_int.1; cases u3.inv_str.1
  exact EqV.to (eqv_agg Tryz.underlying224 (by kernel_rfl) (eqf_1 (by decide) ag9 rfl rfl (eqv_str Tryz.underlying9) (eqf_1 (by decide) ag5 rfl rfl (eqv_int Tryz.underlying5) (eqf_1 (by decide) ag2 rfl rfl (eqv_int Tryz.underlying2) (eqf_1 (by decide) ag9 rfl rfl (eqv_str Tryz.underlying9) eqf_nil))))) (by obtain ⟨a0, a1, a2, a3⟩ := p; obtain ⟨b0, b1, b2, b3⟩ := q; rw [Bool.eq_iff_iff]; simp)
def tbv5 : Tb := [(2, ⟨.int .i64, 1, 8, [.int .i64 0]⟩),
  (5, ⟨.int .u8, 1, 1, [.int .u8 0]⟩),
  (9, ⟨.str, 1, 16, [.str []]⟩),
  (26, ⟨.slc 224, 1, 24, [.sl Pair.pc []]⟩),
  (224, ⟨.agg [(0, 1), (1, 1), (2, 1), (3, 1)], 4, 48, [.str [], .int .u8 0, .int .i64 0, .str []]⟩)]
theorem tbv5ok : tbB Tryz.prog tbv5 = true := by kernel_rfl
theorem eq_Pair (a : List Pair) (b : List Pair) : Fn Tryz.prog gb 163 [.sl Pair.pc a, .sl Pair.pc b] (.bool (decide (a = b))) := by
  refine fn_cw tbv5ok Tryz.func163 rfl Tryz.ntmps163 rfl cb163 rfl rfl fun w N H hG => ?_
  have a_l : a.length ≤ 140737488355328 := w.1.1
  have b_l : b.length ≤ 140737488355328 := w.2.1.1
  refine go tbv5ok 15 rfl rfl trivial ?_
  refine cnd rfl (fun h1 => ?_) (fun h1 => ?_)
  · have h2 := not_t h1
    have p3 := df h2
    refine go tbv5ok 7 rfl rfl trivial ?_
    refine rt1 rfl rfl ?_
    refine ple ?_
    exact congrArg PV.bool (eqL_len (by assumption)).symm
  · have h4 := not_f h1
    have p5 := dt h4
    refine go tbv5ok 11 rfl rfl trivial ?_
    refine loop (ι := Nat) [0, 1, 6, 7, 8, 9, 10, 11, 12] [] (fun k => [(13, .int .i64 (k : Int))]) (fun k => []) (fun k => k ≤ a.length ∧ decide (a = b) = decide (a.drop k = b.drop k)) (fun k => a.length - k) 0 ⟨rfl, trivial⟩ trivial ?_ ?_
    · exact ⟨Nat.zero_le _, rfl⟩
    · rintro k hp6
      obtain ⟨hk1, hk2⟩ := hp6
      refine go tbv5ok 6 rfl rfl trivial ?_
      refine cnd rfl (fun h7 => ?_) (fun h7 => ?_)
      · have p8 := dt h7
        refine go tbv5ok 11 rfl rfl trivial ?_
        refine any [0, 1, 2, 3, 4, 5] 9 mixd rfl ?_
        refine gov tbv5ok [0, 1] 7 rfl (by kernel_rfl) rfl rfl trivial ?_
        obtain ⟨c9, hc10⟩ := getE (xs := a) (m := k) (by omega)
        have c9_w := Pair.pwf (w.1.2 c9 (List.mem_of_getElem? hc10))
        refine vq 2 (qidx tbv5ok k rfl rfl rfl hc10 rfl rfl rfl rfl) rfl (by kernel_rfl) rfl fun w11 => ?_
        refine gov tbv5ok [3, 4, 5] 3 rfl (by kernel_rfl) rfl rfl trivial ?_
        obtain ⟨c12, hc13⟩ := getE (xs := b) (m := k) (by omega)
        have c12_w := Pair.pwf (w.2.1.2 c12 (List.mem_of_getElem? hc13))
        refine vq 6 (qidx tbv5ok k rfl rfl rfl hc13 rfl rfl rfl rfl) rfl (by kernel_rfl) rfl fun w14 => ?_
        refine gov tbv5ok [7] 1 rfl (by kernel_rfl) rfl rfl trivial ?_
        refine vq 8 (sane rfl rfl eqg224 (veq224 c9 c12)) rfl (by kernel_rfl) rfl fun w15 => ?_
        refine vdone (by kernel_rfl) ?_
        refine go tbv5ok 1 rfl rfl trivial ?_
        refine cnd rfl (fun h16 => ?_) (fun h16 => ?_)
        · have h17 := not_t h16
          have p18 := df h17
          refine go tbv5ok 11 rfl rfl trivial ?_
          refine rt1 rfl rfl ?_
          refine ple ?_
          exact congrArg PV.bool (eqL_miss hk2 (dropE hc10) (dropE hc13) (by assumption)).symm
        · have h19 := not_f h16
          have p20 := dt h19
          refine go tbv5ok 7 rfl rfl ⟨(by omega), trivial⟩ ?_
          refine next (k + 1) rfl rfl ⟨rfl, trivial⟩ trivial ?_ ?_
          · omega
          · exact ⟨by omega, eqL_step hk2 (dropE hc10) (dropE hc13) (by assumption)⟩
      · have p21 := df h7
        refine go tbv5ok 11 rfl rfl trivial ?_
        refine rt1 rfl rfl ?_
        refine ple ?_
        exact congrArg PV.bool (eqL_end hk2 (by omega) (by omega)).symm
theorem head_Same (a : List Pair) (b : List Pair) : Fn Tryz.prog gb 103 [.sl Pair.pc a, .sl Pair.pc b] (.bool (decide (a = b))) := by
  refine fn_cw tbv5ok Tryz.func103 rfl Tryz.ntmps103 rfl cb103 rfl rfl fun w N H hG => ?_
  have a_l : a.length ≤ 140737488355328 := w.1.1
  have b_l : b.length ≤ 140737488355328 := w.2.1.1
  refine go tbv5ok 9 rfl rfl trivial ?_
  refine call (eq_Pair _ _) rfl rfl fun w1 => ?_
  refine go tbv5ok 4 rfl rfl trivial ?_
  refine rt1 rfl rfl ?_
  refine ple ?_
  rfl
theorem idxF_Pair (s : List Pair) (f : FuncId) (f_fst f_cap : List PV) (f_p : Pair → Bool) (f_h : ∀ x, Fn Tryz.prog gb f (argsP.apL f_fst ((.agg (Pair.pc x)) :: f_cap)) (.bool (f_p x))) : Fn Tryz.prog gb 247 [.sl Pair.pc s, .fn f f_fst f_cap] (.int .i64 (idxP f_p s)) := by
  refine fn_cw tbv5ok Tryz.func247 rfl Tryz.ntmps247 rfl cb247 rfl rfl fun w N H hG => ?_
  have s_l : s.length ≤ 140737488355328 := w.1.1
  refine go tbv5ok 14 rfl rfl trivial ?_
  refine loop (ι := Nat) [0, 1, 6, 7] [] (fun k => [(8, .int .i64 (k : Int))]) (fun k => []) (fun k => k ≤ s.length ∧ idxP f_p s = idxF f_p k (s.drop k)) (fun k => s.length - k) 0 ⟨rfl, trivial⟩ trivial ?_ ?_
  · exact ⟨Nat.zero_le _, rfl⟩
  · rintro k hp1
    obtain ⟨hk1, hk2⟩ := hp1
    refine go tbv5ok 6 rfl rfl trivial ?_
    refine cnd rfl (fun h2 => ?_) (fun h2 => ?_)
    · have p3 := dt h2
      obtain ⟨c4, hc5⟩ := getE (xs := s) (m := k) (by omega)
      have c4_w := Pair.pwf (w.1.2 c4 (List.mem_of_getElem? hc5))
      refine go tbv5ok 15 rfl rfl trivial ?_
      refine q1 (qidx tbv5ok k rfl rfl rfl hc5 rfl rfl rfl rfl) rfl fun w6 => ?_
      refine go tbv5ok 1 rfl rfl trivial ?_
      refine call (f_h c4) rfl rfl fun w7 => ?_
      refine go tbv5ok 2 rfl rfl trivial ?_
      refine cnd rfl (fun h8 => ?_) (fun h8 => ?_)
      · refine go tbv5ok 12 rfl rfl trivial ?_
        refine rt1 rfl rfl ?_
        refine ple ?_
        exact congrArg (PV.int .i64) (idx_hit hk2 (dropE hc5) (by assumption)).symm
      · refine go tbv5ok 7 rfl rfl ⟨(by omega), trivial⟩ ?_
        refine next (k + 1) rfl rfl ⟨rfl, trivial⟩ trivial ?_ ?_
        · omega
        · exact ⟨by omega, idx_miss hk2 (dropE hc5) (by assumption)⟩
    · have p9 := df h2
      refine go tbv5ok 11 rfl rfl trivial ?_
      refine rt1 rfl rfl ?_
      refine ple ?_
      exact congrArg (PV.int .i64) (idx_end hk2 (by omega)).symm
theorem head_Find1 (p : Pair) (key : Bs) : Fn Tryz.prog gb 248 [.agg (Pair.pc p), .el [.str key] 0] (.bool (decide (p.key = key))) := by
  refine fn_cw tbv5ok Tryz.func248 rfl Tryz.ntmps248 rfl cb248 rfl rfl fun w N H hG => ?_
  refine go tbv5ok 2 rfl rfl trivial ?_
  refine ef (boxA 0 rfl rfl rfl fun b1 => ?_)
  refine go tbv5ok 13 rfl rfl trivial ?_
  refine rt1 rfl rfl ?_
  refine ple ?_
  rfl
theorem head_Find (h : List Pair) (key : Bs) : Fn Tryz.prog gb 220 [.sl Pair.pc h, .str key] (.tup [.agg (Pair.pc ((findP h key).getD Pair.zero)), .bool ((findP h key).isSome)]) := by
  refine fn_cw tbv5ok Tryz.func220 rfl Tryz.ntmps220 rfl cb220 rfl rfl fun w N H hG => ?_
  have h_l : h.length ≤ 140737488355328 := w.1.1
  have key_l : key.length ≤ 9223372036854775807 := w.2.1
  refine go tbv5ok 2 rfl rfl trivial ?_
  refine ef (box1 0 rfl rfl rfl fun b1 => ?_)
  refine ef (alloc tbv5ok 1 rfl rfl rfl rfl fun b2 => ?_)
  refine go tbv5ok 6 rfl rfl trivial ?_
  refine freeze (i := 0) (t := 3) rfl rfl rfl rfl ?_
  refine go tbv5ok 1 rfl rfl trivial ?_
  refine call (idxF_Pair _ _ _ _ (fun z_3 : Pair => decide (z_3.key = key)) (fun z_3 => head_Find1 z_3 key)) rfl rfl fun w4 => ?_
  have hix4 := idxP_b (fun z_3 : Pair => decide (z_3.key = key)) h
  refine go tbv5ok 10 rfl rfl trivial ?_
  refine cnd rfl (fun h5 => ?_) (fun h5 => ?_)
  · have p6 := dt h5
    refine go tbv5ok 3 rfl rfl trivial ?_
    refine ef (storeA tbv5ok rfl rfl rfl rfl rfl rfl rfl rfl rfl rfl ?_)
    refine go tbv5ok 5 rfl rfl trivial ?_
    refine rt2 rfl rfl ?_
    refine ple ?_
    have e := idxP_neg (by assumption)
    have e2 : findP h key = none := by unfold findP; rw [← e]; congr 1; funext x; exact listBeq _ _
    rw [e2]; rfl
  · have p7 := df h5
    obtain ⟨c8, hc9⟩ := getE (xs := h) (m := (idxP (fun z_3 : Pair => decide (z_3.key = key)) h).toNat) (by omega)
    have c8_w := Pair.pwf (w.1.2 c8 (List.mem_of_getElem? hc9))
    refine go tbv5ok 6 rfl rfl trivial ?_
    refine q1 (qidx tbv5ok (idxP (fun z_3 : Pair => decide (z_3.key = key)) h).toNat rfl rfl (by omega) hc9 rfl rfl rfl rfl) rfl fun w10 => ?_
    refine go tbv5ok 1 rfl rfl trivial ?_
    refine ef (storeA tbv5ok rfl rfl rfl rfl rfl rfl rfl rfl rfl rfl ?_)
    refine go tbv5ok 4 rfl rfl trivial ?_
    refine rt2 rfl rfl ?_
    refine ple ?_
    have e := (idxP_get (by assumption) hc9).2
    have e2 : findP h key = some c8 := by unfold findP; rw [← e]; congr 1; funext x; exact listBeq _ _
    rw [e2]; rfl
theorem head_pair (p : Pair) (ahead : List Pair) : Fn Tryz.prog gb 184 [.agg (Pair.pc p), .sl Pair.pc ahead] (.int .i64 (pairErr p ahead)) := by
  refine fn_cw tbv5ok Tryz.func184 rfl Tryz.ntmps184 rfl cb184 rfl rfl fun w N H hG => ?_
  have ahead_l : ahead.length ≤ 140737488355328 := w.2.1.1
  refine go tbv5ok 2 rfl rfl trivial ?_
  refine ef (boxA 0 rfl rfl rfl fun b1 => ?_)
  refine go tbv5ok 8 rfl rfl trivial ?_
  refine call (words_Name _) rfl rfl fun w2 => ?_
  refine go tbv5ok 9 rfl rfl trivial ?_
  refine cnd rfl (fun h3 => ?_) (fun h3 => ?_)
  · have h4 := not_t h3
    have p5 := df h4
    refine go tbv5ok 8 rfl rfl trivial ?_
    refine rt1 rfl rfl ?_
    refine ple ?_
    refine congrArg (PV.int .i64) ?_
    simp only [Bool.or_eq_true, Bool.and_eq_true, Bool.not_eq_true', decide_eq_true_eq, Bool.or_eq_false_iff, Bool.and_eq_false_iff, Bool.not_eq_false', decide_eq_false_iff_not, beq_iff_eq, beq_eq_false_iff_ne] at *
    unfold pairErr
    (repeat' split) <;> first | rfl | (exfalso; omega) | (exfalso; simp_all; done) | (exfalso; simp_all; omega) | grind
  · have h6 := not_f h3
    have p7 := dt h6
    refine go tbv5ok 7 rfl rfl trivial ?_
    refine call (head_Find _ _) rfl rfl fun w8 => ?_
    refine go tbv5ok 3 rfl rfl trivial ?_
    refine ef (alloc tbv5ok 1 rfl rfl rfl rfl fun b9 => ?_)
    refine ef (storeA tbv5ok rfl rfl rfl rfl rfl rfl rfl rfl rfl rfl ?_)
    refine go tbv5ok 13 rfl rfl trivial ?_
    refine cnd rfl (fun h10 => ?_) (fun h10 => ?_)
    · have p11 := dt h10
      refine go tbv5ok 8 rfl rfl trivial ?_
      refine rt1 rfl rfl ?_
      refine ple ?_
      refine congrArg (PV.int .i64) ?_
      simp only [Bool.or_eq_true, Bool.and_eq_true, Bool.not_eq_true', decide_eq_true_eq, Bool.or_eq_false_iff, Bool.and_eq_false_iff, Bool.not_eq_false', decide_eq_false_iff_not, beq_iff_eq, beq_eq_false_iff_ne] at *
      unfold pairErr
      (repeat' split) <;> first | rfl | (exfalso; omega) | (exfalso; simp_all; done) | (exfalso; simp_all; omega) | grind
    · have p12 := df h10
      refine go tbv5ok 14 rfl rfl ⟨(fun hc => hc), (fun hc => hc), (fun hc => hc), rfl, rfl, trivial⟩ ?_
      refine cnd rfl (fun h13 => ?_) (fun h13 => ?_)
      · have h14 := bl h13
        have p15 := dt h14
        have h16 := br h13
        have p17 := dt h16
        refine go tbv5ok 8 rfl rfl trivial ?_
        refine rt1 rfl rfl ?_
        refine ple ?_
        refine congrArg (PV.int .i64) ?_
        simp only [Bool.or_eq_true, Bool.and_eq_true, Bool.not_eq_true', decide_eq_true_eq, Bool.or_eq_false_iff, Bool.and_eq_false_iff, Bool.not_eq_false', decide_eq_false_iff_not, beq_iff_eq, beq_eq_false_iff_ne] at *
        unfold pairErr
        (repeat' split) <;> first | rfl | (exfalso; omega) | (exfalso; simp_all; done) | (exfalso; simp_all; omega) | grind
      · refine go tbv5ok 18 rfl rfl ⟨(fun hc => hc), (fun hc => hc), rfl, rfl, (fun hc => hc), (fun hc => hc), rfl, rfl, trivial⟩ ?_
        refine cnd rfl (fun h18 => ?_) (fun h18 => ?_)
        · have h19 := bl h18
          have h20 := bl h19
          have p21 := dt h20
          have h22 := br h19
          have h23 := not_t h22
          have p24 := df h23
          have h25 := br h18
          have h26 := not_t h25
          have p27 := df h26
          refine go tbv5ok 8 rfl rfl trivial ?_
          refine rt1 rfl rfl ?_
          refine ple ?_
          refine congrArg (PV.int .i64) ?_
          simp only [Bool.or_eq_true, Bool.and_eq_true, Bool.not_eq_true', decide_eq_true_eq, Bool.or_eq_false_iff, Bool.and_eq_false_iff, Bool.not_eq_false', decide_eq_false_iff_not, beq_iff_eq, beq_eq_false_iff_ne] at *
          unfold pairErr
          (repeat' split) <;> first | rfl | (exfalso; omega) | (exfalso; simp_all; done) | (exfalso; simp_all; omega) | grind
        · refine go tbv5ok 14 rfl rfl ⟨(fun hc => hc), (fun hc => hc), rfl, rfl, trivial⟩ ?_
          refine cnd rfl (fun h28 => ?_) (fun h28 => ?_)
          · have h29 := bl h28
            have p30 := dt h29
            have h31 := br h28
            have h32 := not_t h31
            have p33 := df h32
            refine go tbv5ok 2 rfl rfl trivial ?_
            refine cndT rfl h28 ?_
            refine go tbv5ok 8 rfl rfl trivial ?_
            refine rt1 rfl rfl ?_
            refine ple ?_
            refine congrArg (PV.int .i64) ?_
            simp only [Bool.or_eq_true, Bool.and_eq_true, Bool.not_eq_true', decide_eq_true_eq, Bool.or_eq_false_iff, Bool.and_eq_false_iff, Bool.not_eq_false', decide_eq_false_iff_not, beq_iff_eq, beq_eq_false_iff_ne] at *
            unfold pairErr
            (repeat' split) <;> first | rfl | (exfalso; omega) | (exfalso; simp_all; done) | (exfalso; simp_all; omega) | grind
          · refine go tbv5ok 12 rfl rfl ⟨(fun hc => hc), (fun hc => hc), rfl, rfl, trivial⟩ ?_
            refine cnd rfl (fun h34 => ?_) (fun h34 => ?_)
            · have h35 := bl h34
              have h36 := not_t h35
              have p37 := df h36
              have h38 := br h34
              have h39 := not_t h38
              have p40 := df h39
              refine go tbv5ok 8 rfl rfl trivial ?_
              refine rt1 rfl rfl ?_
              refine ple ?_
              refine congrArg (PV.int .i64) ?_
              simp only [Bool.or_eq_true, Bool.and_eq_true, Bool.not_eq_true', decide_eq_true_eq, Bool.or_eq_false_iff, Bool.and_eq_false_iff, Bool.not_eq_false', decide_eq_false_iff_not, beq_iff_eq, beq_eq_false_iff_ne] at *
              unfold pairErr
              (repeat' split) <;> first | rfl | (exfalso; omega) | (exfalso; simp_all; done) | (exfalso; simp_all; omega) | grind
            · refine go tbv5ok 6 rfl rfl trivial ?_
              refine cnd rfl (fun h41 => ?_) (fun h41 => ?_)
              · refine go tbv5ok 8 rfl rfl trivial ?_
                refine rt1 rfl rfl ?_
                refine ple ?_
                refine congrArg (PV.int .i64) ?_
                simp only [Bool.or_eq_true, Bool.and_eq_true, Bool.not_eq_true', decide_eq_true_eq, Bool.or_eq_false_iff, Bool.and_eq_false_iff, Bool.not_eq_false', decide_eq_false_iff_not, beq_iff_eq, beq_eq_false_iff_ne] at *
                unfold pairErr
                (repeat' split) <;> first | rfl | (exfalso; omega) | (exfalso; simp_all; done) | (exfalso; simp_all; omega) | grind
              · refine go tbv5ok 9 rfl rfl trivial ?_
                refine rt1 rfl rfl ?_
                refine ple ?_
                refine congrArg (PV.int .i64) ?_
                simp only [Bool.or_eq_true, Bool.and_eq_true, Bool.not_eq_true', decide_eq_true_eq, Bool.or_eq_false_iff, Bool.and_eq_false_iff, Bool.not_eq_false', decide_eq_false_iff_not, beq_iff_eq, beq_eq_false_iff_ne] at *
                unfold pairErr
                (repeat' split) <;> first | rfl | (exfalso; omega) | (exfalso; simp_all; done) | (exfalso; simp_all; omega) | grind
theorem head_Check (h : List Pair) : Fn Tryz.prog gb 175 [.sl Pair.pc h] (.int .i64 (headE h)) := by
  refine fn_cw tbv5ok Tryz.func175 rfl Tryz.ntmps175 rfl cb175 rfl rfl fun w N H hG => ?_
  have h_l : h.length ≤ 140737488355328 := w.1.1
  refine go tbv5ok 13 rfl rfl trivial ?_
  refine cnd rfl (fun h1 => ?_) (fun h1 => ?_)
  · have p2 := dt h1
    refine go tbv5ok 7 rfl rfl trivial ?_
    refine rt1 rfl rfl ?_
    refine ple ?_
    simp [headE, *]
  · have p3 := df h1
    refine go tbv5ok 11 rfl rfl trivial ?_
    refine loop (ι := Nat) [0, 6, 7, 8, 9, 10] [] (fun k => [(11, .int .i64 (k : Int))]) (fun k => []) (fun k => k ≤ h.length ∧ headGo [] h = headGo (h.take k) (h.drop k)) (fun k => h.length - k) 0 ⟨rfl, trivial⟩ trivial ?_ ?_
    · exact ⟨Nat.zero_le _, rfl⟩
    · rintro k hp4
      obtain ⟨hk1, hk2⟩ := hp4
      refine go tbv5ok 6 rfl rfl trivial ?_
      refine cnd rfl (fun h5 => ?_) (fun h5 => ?_)
      · have p6 := dt h5
        obtain ⟨c7, hc8⟩ := getE (xs := h) (m := k) (by omega)
        have c7_w := Pair.pwf (w.1.2 c7 (List.mem_of_getElem? hc8))
        refine go tbv5ok 7 rfl rfl trivial ?_
        refine q1 (qidx tbv5ok k rfl rfl rfl hc8 rfl rfl rfl rfl) rfl fun w9 => ?_
        refine go tbv5ok 1 rfl rfl trivial ?_
        refine ef (alloc tbv5ok 0 rfl rfl rfl rfl fun b10 => ?_)
        refine go tbv5ok 1 rfl rfl trivial ?_
        refine ef (storeA tbv5ok rfl rfl rfl rfl rfl rfl rfl rfl rfl rfl ?_)
        refine go tbv5ok 3 rfl rfl trivial ?_
        refine any [1, 2, 3, 4, 5, 6] 6 mixd rfl ?_
        refine gov tbv5ok [0, 1, 2] 3 rfl (by kernel_rfl) rfl rfl trivial ?_
        refine vq 3 (lshi tbv5ok k rfl rfl rfl rfl rfl (fun _ => rfl) rfl (by omega)) rfl (by kernel_rfl) rfl fun w11 => ?_
        refine vcall 4 rfl (by kernel_rfl) (head_pair _ _) rfl rfl fun w12 => ?_
        have := pairErr_r c7 (h.take k)
        refine gov tbv5ok [5] 0 rfl (by kernel_rfl) rfl rfl trivial ?_
        refine vdone (by kernel_rfl) ?_
        refine go tbv5ok 7 rfl rfl trivial ?_
        refine cnd rfl (fun h13 => ?_) (fun h13 => ?_)
        · have h14 := not_t h13
          have p15 := df h14
          refine go tbv5ok 12 rfl rfl trivial ?_
          refine rt1 rfl rfl ?_
          refine ple ?_
          unfold headE
          rw [if_neg (by omega), hk2, dropE hc8]
          simp only [headGo]
          rw [if_pos (by omega)]
        · have h16 := not_f h13
          have p17 := dt h16
          refine go tbv5ok 7 rfl rfl ⟨(by omega), trivial⟩ ?_
          refine next (k + 1) rfl rfl ⟨rfl, trivial⟩ trivial ?_ ?_
          · omega
          · refine ⟨by omega, ?_⟩
            rw [hk2, dropE hc8, takeE hc8]
            simp only [headGo]
            rw [if_neg (by omega)]
      · have p18 := df h5
        refine go tbv5ok 11 rfl rfl trivial ?_
        refine rt1 rfl rfl ?_
        refine ple ?_
        unfold headE
        rw [if_neg (by omega), hk2, List.drop_of_length_le (by omega)]
        rfl
end Go.SW.V
set_option linter.unusedVariables false
set_option maxRecDepth 100000
set_option maxHeartbeats 4000000
namespace Go.SW.V
open Go.SW Go.Proofs
end Go.SW.V
set_option linter.unusedVariables false
set_option maxRecDepth 100000
set_option maxHeartbeats 4000000
namespace Go.SW.V
open Go.SW Go.Proofs
theorem cb131 : Callable Tryz.prog 131 := callable_of Tryz.func131 (by kernel_rfl) (by kernel_rfl)
theorem cb132 : Callable Tryz.prog 132 := callable_of Tryz.func132 (by kernel_rfl) (by kernel_rfl)
theorem cb133 : Callable Tryz.prog 133 := callable_of Tryz.func133 (by kernel_rfl) (by kernel_rfl)
theorem cb136 : Callable Tryz.prog 136 := callable_of Tryz.func136 (by kernel_rfl) (by kernel_rfl)
theorem cb65 : Callable Tryz.prog 65 := callable_of Tryz.func65 (by kernel_rfl) (by kernel_rfl)
def tbv6 : Tb := [(3, ⟨.int .i64, 1, 8, [.int .i64 0]⟩),
  (5, ⟨.int .u8, 1, 1, [.int .u8 0]⟩),
  (9, ⟨.str, 1, 16, [.str []]⟩),
  (25, ⟨.int .u64, 1, 8, [.int .u64 0]⟩),
  (39, ⟨.int .i64, 1, 8, [.int .i64 0]⟩),
  (142, ⟨.slc 5, 1, 24, [.sl u8c []]⟩),
  (237, ⟨.agg [(0, 1), (1, 1)], 2, 24, [.str [], .int .i64 0]⟩)]
theorem tbv6ok : tbB Tryz.prog tbv6 = true := by kernel_rfl
theorem in_Num (i : In) (bytes : Int) : Fm Tryz.prog gb 131 [.int .i64 bytes] 237 (In.pc i) (.int .u64 (((inNum i bytes)).1)) (In.pc (((inNum i bytes)).2)) := by
  refine fm_cw tbv6ok Tryz.func131 rfl Tryz.ntmps131 rfl cb131 rfl rfl rfl rfl fun w wp b N H hG => ?_
  have bytes_r : -9223372036854775808 ≤ bytes ∧ bytes ≤ 9223372036854775807 := w.1
  have hb0 := inRaw_len i (min bytes 8)
  refine go tbv6ok 16 rfl rfl trivial ?_
  refine ef (ecallm (in_Raw _ (min bytes 8)) rfl rfl rfl rfl rfl fun w1 w1p => ?_)
  refine ef (ss2b tbv6ok rfl rfl rfl rfl rfl rfl rfl (by omega) rfl ?_)
  refine go tbv6ok 5 rfl rfl trivial ?_
  refine loop (ι := Nat) [0, 1, 4, 8, 9, 10, 11, 12, 13] [0] (fun k => [(5, .int .u64 (beN ((inRaw i (min bytes 8)).1.take k) : Int)), (14, .int .i64 (k : Int))]) (fun k => []) (fun k => k ≤ (inRaw i (min bytes 8)).1.length) (fun k => (inRaw i (min bytes 8)).1.length - k) 0 ⟨rfl, rfl, trivial⟩ trivial ?_ ?_
  · exact Nat.zero_le _
  · rintro k hp2
    have hb := inRaw_len i (min bytes 8)
    refine go tbv6ok 6 rfl rfl trivial ?_
    refine cnd rfl (fun h3 => ?_) (fun h3 => ?_)
    · have p4 := dt h3
      obtain ⟨c5, hc6⟩ := getE (xs := (inRaw i (min bytes 8)).1) (m := k) (by omega)
      refine go tbv6ok 6 rfl rfl trivial ?_
      refine q1 (qidx tbv6ok k rfl rfl rfl hc6 rfl rfl rfl rfl) rfl fun w7 => ?_
      have := wr_u64 ((BitVec.ofInt (IntKind.bits .u64) (IntKind.wrap .u64 ((beN ((inRaw i (min bytes 8)).1.take k) : Int) * 2 ^ (min (8 : Int).toNat (IntKind.bits .u64)))) ||| BitVec.ofInt (IntKind.bits .u64) ((c5).toNat : Int)).toNat)
      refine go tbv6ok 18 rfl rfl ⟨(by omega), (by omega), trivial⟩ ?_
      refine next (k + 1) rfl rfl ⟨(congrArg (PV.int .u64) (num_step hc6 (by omega))), rfl, trivial⟩ trivial ?_ ?_
      · omega
      · omega
    · have p8 := df h3
      refine go tbv6ok 12 rfl rfl trivial ?_
      refine rm1 rfl rfl ?_ rfl rfl rfl ?_
      · refine ple ?_
        simp only [inNum]
        rw [List.take_of_length_le (by omega)]
      · exact ples rfl
theorem in_Text (i : In) (most : Int) : Fm Tryz.prog gb 132 [.int .i64 most] 237 (In.pc i) (.str (((inText i most)).1)) (In.pc (((inText i most)).2)) := by
  refine fm_cw tbv6ok Tryz.func132 rfl Tryz.ntmps132 rfl cb132 rfl rfl rfl rfl fun w wp b N H hG => ?_
  have most_r : -9223372036854775808 ≤ most ∧ most ≤ 9223372036854775807 := w.1
  refine go tbv6ok 8 rfl rfl trivial ?_
  refine ef (ecallm (in_Num _ _) rfl rfl rfl rfl rfl fun w1 w1p => ?_)
  have := inNum_r i 2
  refine q1 (qconv tbv6ok rfl rfl rfl rfl (rg_i64 (by omega))) rfl fun w2 => ?_
  refine go tbv6ok 11 rfl rfl trivial ?_
  refine cnd rfl (fun h3 => ?_) (fun h3 => ?_)
  · have p4 := dt h3
    refine go tbv6ok 2 rfl rfl trivial ?_
    refine ef (ecallm (in_Fail _ _) rfl rfl rfl rfl rfl fun w5 w5p => ?_)
    refine go tbv6ok 6 rfl rfl trivial ?_
    refine ef (ecallm (in_Raw _ _) rfl rfl rfl rfl rfl fun w6 w6p => ?_)
    refine go tbv6ok 4 rfl rfl trivial ?_
    refine rm1 rfl rfl ?_ rfl rfl rfl ?_
    · exact ple (by simp [inText, *])
    · exact ples (by simp [inText, In.pc, *])
  · have p7 := df h3
    refine go tbv6ok 6 rfl rfl trivial ?_
    refine ef (ecallm (in_Raw _ _) rfl rfl rfl rfl rfl fun w8 w8p => ?_)
    refine go tbv6ok 4 rfl rfl trivial ?_
    refine rm1 rfl rfl ?_ rfl rfl rfl ?_
    · exact ple (by simp [inText, *])
    · exact ples (by simp [inText, In.pc, *])
theorem in_Left (i : In) : Fm Tryz.prog gb 136 [] 237 (In.pc i) (.int .i64 (i.s.length : Int)) (In.pc i) := by
  refine fm_cw tbv6ok Tryz.func136 rfl Tryz.ntmps136 rfl cb136 rfl rfl rfl rfl fun w wp b N H hG => ?_
  refine go tbv6ok 9 rfl rfl trivial ?_
  refine q1 (qpeq Tryz.underlying156 rfl rfl) rfl fun w1 => ?_
  refine go tbv6ok 16 rfl rfl trivial ?_
  refine rm1 rfl rfl ?_ rfl rfl rfl ?_
  · exact ple rfl
  · exact ples rfl
theorem in_Err (i : In) : Fm Tryz.prog gb 133 [] 237 (In.pc i) (.int .i64 i.err) (In.pc i) := by
  refine fm_cw tbv6ok Tryz.func133 rfl Tryz.ntmps133 rfl cb133 rfl rfl rfl rfl fun w wp b N H hG => ?_
  refine go tbv6ok 9 rfl rfl trivial ?_
  refine q1 (qpeq Tryz.underlying156 rfl rfl) rfl fun w1 => ?_
  refine go tbv6ok 15 rfl rfl trivial ?_
  refine rm1 rfl rfl ?_ rfl rfl rfl ?_
  · exact ple rfl
  · exact ples rfl
theorem in_End (i : In) : Fm Tryz.prog gb 65 [] 237 (In.pc i) (.int .i64 (inEnd i)) (In.pc i) := by
  refine fm_cw tbv6ok Tryz.func65 rfl Tryz.ntmps65 rfl cb65 rfl rfl rfl rfl fun w wp b N H hG => ?_
  refine go tbv6ok 9 rfl rfl trivial ?_
  refine ef (ecallm (in_Err _) rfl rfl rfl rfl rfl fun w1 w1p => ?_)
  refine go tbv6ok 3 rfl rfl trivial ?_
  refine callgm rfl (fun hc => (in_Left _)) rfl rfl rfl rfl ⟨(fun hc => hc), trivial⟩ rfl rfl fun _ => ?_
  refine go tbv6ok 4 rfl rfl ⟨(fun hc => hc), rfl, rfl, trivial⟩ ?_
  refine cnd rfl (fun h2 => ?_) (fun h2 => ?_)
  · have h3 := bl h2
    have p4 := dt h3
    have h5 := br h2
    have p6 := dt h5
    refine go tbv6ok 7 rfl rfl trivial ?_
    refine rm1 rfl rfl ?_ rfl rfl rfl ?_
    · refine ple ?_
      refine congrArg (PV.int .i64) ?_
      simp only [Bool.or_eq_true, Bool.and_eq_true, Bool.not_eq_true', decide_eq_true_eq, Bool.or_eq_false_iff, Bool.and_eq_false_iff, Bool.not_eq_false', decide_eq_false_iff_not, beq_iff_eq, beq_eq_false_iff_ne] at *
      unfold inEnd
      (repeat' split) <;> first | rfl | (exfalso; omega) | (exfalso; simp_all; done) | (exfalso; simp_all; omega) | grind
    · exact ples rfl
  · refine go tbv6ok 5 rfl rfl trivial ?_
    refine ef (ecallm (in_Err _) rfl rfl rfl rfl rfl fun w7 w7p => ?_)
    refine go tbv6ok 4 rfl rfl trivial ?_
    refine rm1 rfl rfl ?_ rfl rfl rfl ?_
    · refine ple ?_
      refine congrArg (PV.int .i64) ?_
      simp only [Bool.or_eq_true, Bool.and_eq_true, Bool.not_eq_true', decide_eq_true_eq, Bool.or_eq_false_iff, Bool.and_eq_false_iff, Bool.not_eq_false', decide_eq_false_iff_not, beq_iff_eq, beq_eq_false_iff_ne] at *
      unfold inEnd
      (repeat' split) <;> first | rfl | (exfalso; omega) | (exfalso; simp_all; done) | (exfalso; simp_all; omega) | grind
    · exact ples rfl
end Go.SW.V
set_option linter.unusedVariables false
set_option maxRecDepth 100000
set_option maxHeartbeats 4000000
namespace Go.SW.V
open Go.SW Go.Proofs
theorem cb246 : Callable Tryz.prog 246 := callable_of Tryz.func246 (by kernel_rfl) (by kernel_rfl)
def tbv7 : Tb := [(9, ⟨.str, 1, 16, [.str []]⟩),
  (225, ⟨.slc 9, 1, 24, [.sl strc []]⟩)]
theorem tbv7ok : tbB Tryz.prog tbv7 = true := by kernel_rfl
theorem words_Matches (pattern : Bs) (key : Bs) (hp : pattern.length < 4294967281) (hk : key.length < 4294967281) : Fn Tryz.prog gb 246 [.str pattern, .str key] (.bool (mt (wordsOf pattern) (wordsOf key))) := by
  refine fn_cw tbv7ok Tryz.func246 rfl Tryz.ntmps246 rfl cb246 rfl rfl fun w N H hG => ?_
  have pattern_l : pattern.length ≤ 9223372036854775807 := w.1
  have key_l : key.length ≤ 9223372036854775807 := w.2.1
  refine go tbv7ok 8 rfl rfl trivial ?_
  refine call (words_Split _ (by omega)) rfl rfl fun w1 => ?_
  refine go tbv7ok 1 rfl rfl trivial ?_
  refine call (words_Split _ (by omega)) rfl rfl fun w2 => ?_
  refine go tbv7ok 18 rfl rfl trivial ?_
  refine loop (ι := Nat × Nat × Int × Nat) [0, 1, 5, 6, 11, 12, 13, 14] [] (fun ⟨i, j, b, f⟩ => [(7, .int .i64 (i : Int)), (8, .int .i64 (j : Int)), (9, .int .i64 b), (10, .int .i64 (f : Int))]) (fun ⟨i, j, b, f⟩ => []) (fun ⟨i, j, b, f⟩ => MI (wordsOf pattern) (wordsOf key) i j b f) (fun ⟨i, j, b, f⟩ => mmu (wordsOf pattern) (wordsOf key) j b f) ⟨0, 0, (-1), 0⟩ ⟨rfl, rfl, rfl, rfl, trivial⟩ trivial ?_ ?_
  · exact MI.start _ _
  · rintro ⟨i, j, b, f⟩ hp3
    have hmi := hp3
    have hwp := words_le pattern
    have hwk := words_le key
    have := hmi.hi
    have := hmi.hj
    have := hmi.hf
    have := hmi.hb
    have := hmi.hbi
    refine go tbv7ok 9 rfl rfl trivial ?_
    refine cnd rfl (fun h4 => ?_) (fun h4 => ?_)
    · have p5 := dt h4
      obtain ⟨c6, hc7⟩ := getJ (wordsOf pattern) i
      refine go tbv7ok 13 rfl rfl trivial ?_
      refine q1g [25, 26] rfl (fun hc => qidx tbv7ok i rfl rfl rfl (hc7 (by first | omega | (simp only [gOf, Bool.and_eq_true, Bool.or_eq_true, Bool.not_eq_true', decide_eq_true_eq, decide_eq_false_iff_not, Bool.not_eq_false', Bool.and_true, Bool.true_and, cond_true, cond_false] at *; omega))) rfl rfl rfl rfl) ⟨(fun hc => hc), (fun hc => hc), trivial⟩ rfl rfl rfl fun _ => ?_
      refine go tbv7ok 6 rfl rfl ⟨(fun hc => hc), (fun hc => hc), rfl, rfl, trivial⟩ ?_
      refine cnd rfl (fun h8 => ?_) (fun h8 => ?_)
      · have h9 := bl h8
        have p10 := dt h9
        have h11 := br h8
        have p12 := dt h11
        refine go tbv7ok 15 rfl rfl ⟨(by omega), trivial⟩ ?_
        obtain ⟨c13, hc14⟩ := getE (xs := wordsOf key) (m := j) (by omega)
        refine next ⟨(i + 1), j, ((i : Int) + 1), j⟩ rfl rfl ⟨(congrArg (PV.int .i64) (by omega)), rfl, rfl, rfl, trivial⟩ trivial ?_ ?_
        · exact mmu_hash hmi (by omega)
        · exact MI.hash hmi (by rw [(hc7 (by first | omega | (simp only [gOf, Bool.and_eq_true, Bool.or_eq_true, Bool.not_eq_true', decide_eq_true_eq, decide_eq_false_iff_not, Bool.not_eq_false', Bool.and_true, Bool.true_and, cond_true, cond_false] at *; omega)))]; simp [*])
      · refine go tbv7ok 1 rfl rfl trivial ?_
        refine any [0, 1, 2, 3, 4, 5] 23 mixd rfl ?_
        refine gov tbv7ok [0, 1, 2, 3, 4, 5, 6] 16 rfl (by kernel_rfl) rfl rfl trivial ?_
        refine vqg 7 [41, 42] rfl (by kernel_rfl) rfl rfl (fun hc => qidx tbv7ok i rfl rfl rfl (hc7 (by first | omega | (simp only [gOf, Bool.and_eq_true, Bool.or_eq_true, Bool.not_eq_true', decide_eq_true_eq, decide_eq_false_iff_not, Bool.not_eq_false', Bool.and_true, Bool.true_and, cond_true, cond_false] at *; omega))) rfl rfl rfl rfl) ⟨(fun hc => hc), (fun hc => hc), trivial⟩ rfl fun _ => ?_
        refine gov tbv7ok [8, 9, 10, 11, 12] 10 rfl (by kernel_rfl) rfl rfl ⟨(fun hc => hc), (fun hc => hc), (fun hc => hc), trivial⟩ ?_
        refine vqg 13 [47, 48] rfl (by kernel_rfl) rfl rfl (fun hc => qidx tbv7ok i rfl rfl rfl (hc7 (by first | omega | (simp only [gOf, Bool.and_eq_true, Bool.or_eq_true, Bool.not_eq_true', decide_eq_true_eq, decide_eq_false_iff_not, Bool.not_eq_false', Bool.and_true, Bool.true_and, cond_true, cond_false] at *; omega))) rfl rfl rfl rfl) ⟨(fun hc => hc), (fun hc => hc), trivial⟩ rfl fun _ => ?_
        refine gov tbv7ok [14, 15, 16] 6 rfl (by kernel_rfl) rfl rfl ⟨(fun hc => hc), trivial⟩ ?_
        obtain ⟨c15, hc16⟩ := getJ (wordsOf key) j
        refine vqg 17 [51, 52] rfl (by kernel_rfl) rfl rfl (fun hc => qidx tbv7ok j rfl rfl rfl (hc16 (by first | omega | (simp only [gOf, Bool.and_eq_true, Bool.or_eq_true, Bool.not_eq_true', decide_eq_true_eq, decide_eq_false_iff_not, Bool.not_eq_false', Bool.and_true, Bool.true_and, cond_true, cond_false] at *; omega))) rfl rfl rfl rfl) ⟨(fun hc => hc), (fun hc => hc), trivial⟩ rfl fun _ => ?_
        refine gov tbv7ok [18, 19, 20, 21, 22] 0 rfl (by kernel_rfl) rfl rfl ⟨(fun hc => hc), (fun hc => hc), (fun hc => hc), (fun hc => hc), (fun hc => (by rw [hc]; rfl)), (fun hc => rfl), rfl, rfl, trivial⟩ ?_
        refine vdone (by kernel_rfl) ?_
        refine go tbv7ok 1 rfl rfl trivial ?_
        refine cnd rfl (fun h17 => ?_) (fun h17 => ?_)
        · have h18 := bl h17
          have p19 := dt h18
          have h20 := br h17
          refine go tbv7ok 10 rfl rfl ⟨(by omega), (by omega), trivial⟩ ?_
          refine next ⟨(i + 1), (j + 1), b, f⟩ rfl rfl ⟨(congrArg (PV.int .i64) (by omega)), rfl, rfl, rfl, trivial⟩ trivial ?_ ?_
          · exact mmu_step (by omega)
          · first | exact MI.step hmi (hc7 (by first | omega | (simp only [gOf, Bool.and_eq_true, Bool.or_eq_true, Bool.not_eq_true', decide_eq_true_eq, decide_eq_false_iff_not, Bool.not_eq_false', Bool.and_true, Bool.true_and, cond_true, cond_false] at *; omega))) (hc16 (by first | omega | (simp only [gOf, Bool.and_eq_true, Bool.or_eq_true, Bool.not_eq_true', decide_eq_true_eq, decide_eq_false_iff_not, Bool.not_eq_false', Bool.and_true, Bool.true_and, cond_true, cond_false] at *; omega))) (by assumption) (by first | exact .inl (by assumption) | exact .inr (by assumption)) | exact MI.step hmi (hc7 (by first | omega | (simp only [gOf, Bool.and_eq_true, Bool.or_eq_true, Bool.not_eq_true', decide_eq_true_eq, decide_eq_false_iff_not, Bool.not_eq_false', Bool.and_true, Bool.true_and, cond_true, cond_false] at *; omega))) (hc16 (by first | omega | (simp only [gOf, Bool.and_eq_true, Bool.or_eq_true, Bool.not_eq_true', decide_eq_true_eq, decide_eq_false_iff_not, Bool.not_eq_false', Bool.and_true, Bool.true_and, cond_true, cond_false] at *; omega))) (by simp_all) (by first | (left; simp_all; done) | (right; simp_all; done) | grind)
        · refine go tbv7ok 7 rfl rfl trivial ?_
          refine cnd rfl (fun h21 => ?_) (fun h21 => ?_)
          · have p22 := dt h21
            refine go tbv7ok 15 rfl rfl ⟨(by omega), trivial⟩ ?_
            have hbad : ∀ w, (wordsOf pattern)[i]? = some w → w ≠ [35] ∧ w ≠ [42] ∧ w ≠ c15 := by
              intro w hw
              obtain ⟨hlt, _⟩ := List.getElem?_eq_some_iff.1 hw
              rw [(hc7 (by first | omega | (simp only [gOf, Bool.and_eq_true, Bool.or_eq_true, Bool.not_eq_true', decide_eq_true_eq, decide_eq_false_iff_not, Bool.not_eq_false', Bool.and_true, Bool.true_and, cond_true, cond_false] at *; omega)))] at hw; cases hw
              first | exact ⟨by assumption, by assumption, by assumption⟩ | (refine ⟨?_, ?_, ?_⟩ <;> intro q <;> simp_all)
            refine next ⟨b.toNat, (f + 1), b, (f + 1)⟩ rfl rfl ⟨(congrArg (PV.int .i64) (by omega)), rfl, rfl, rfl, trivial⟩ trivial ?_ ?_
            · exact mmu_back hmi.hf (by omega)
            · exact MI.back hmi (hc16 (by first | omega | (simp only [gOf, Bool.and_eq_true, Bool.or_eq_true, Bool.not_eq_true', decide_eq_true_eq, decide_eq_false_iff_not, Bool.not_eq_false', Bool.and_true, Bool.true_and, cond_true, cond_false] at *; omega))) (by omega) hbad
          · have p23 := df h21
            refine go tbv7ok 11 rfl rfl trivial ?_
            refine rt1 rfl rfl ?_
            refine ple ?_
            have hbad : ∀ w, (wordsOf pattern)[i]? = some w → w ≠ [35] ∧ w ≠ [42] ∧ w ≠ c15 := by
              intro w hw
              obtain ⟨hlt, _⟩ := List.getElem?_eq_some_iff.1 hw
              rw [(hc7 (by first | omega | (simp only [gOf, Bool.and_eq_true, Bool.or_eq_true, Bool.not_eq_true', decide_eq_true_eq, decide_eq_false_iff_not, Bool.not_eq_false', Bool.and_true, Bool.true_and, cond_true, cond_false] at *; omega)))] at hw; cases hw
              first | exact ⟨by assumption, by assumption, by assumption⟩ | (refine ⟨?_, ?_, ?_⟩ <;> intro q <;> simp_all)
            exact congrArg PV.bool (MI.none hmi (hc16 (by first | omega | (simp only [gOf, Bool.and_eq_true, Bool.or_eq_true, Bool.not_eq_true', decide_eq_true_eq, decide_eq_false_iff_not, Bool.not_eq_false', Bool.and_true, Bool.true_and, cond_true, cond_false] at *; omega))) (by omega) hbad).symm
    · have p24 := df h4
      refine go tbv7ok 7 rfl rfl trivial ?_
      refine loop (ι := Nat) [0, 1, 5, 6, 8, 9, 10, 11, 12, 13, 14, 15, 16, 17, 18] [] (fun q => [(7, .int .i64 (q : Int))]) (fun q => []) (fun q => q ≤ (wordsOf pattern).length ∧ mt (wordsOf pattern) (wordsOf key) = mt ((wordsOf pattern).drop q) []) (fun q => (wordsOf pattern).length - q) i ⟨rfl, trivial⟩ trivial ?_ ?_
      · exact ⟨by omega, hmi.fin (by omega)⟩
      · rintro q hp25
        obtain ⟨hq1, hq2⟩ := hp25
        obtain ⟨c26, hc27⟩ := getJ (wordsOf pattern) q
        refine go tbv7ok 10 rfl rfl trivial ?_
        refine q1g [74, 75] rfl (fun hc => qidx tbv7ok q rfl rfl rfl (hc27 (by first | omega | (simp only [gOf, Bool.and_eq_true, Bool.or_eq_true, Bool.not_eq_true', decide_eq_true_eq, decide_eq_false_iff_not, Bool.not_eq_false', Bool.and_true, Bool.true_and, cond_true, cond_false] at *; omega))) rfl rfl rfl rfl) ⟨(fun hc => hc), (fun hc => hc), trivial⟩ rfl rfl rfl fun _ => ?_
        refine go tbv7ok 5 rfl rfl ⟨(fun hc => hc), (fun hc => hc), rfl, rfl, trivial⟩ ?_
        refine cnd rfl (fun h28 => ?_) (fun h28 => ?_)
        · have h29 := bl h28
          have p30 := dt h29
          have h31 := br h28
          have p32 := dt h31
          refine go tbv7ok 9 rfl rfl ⟨(by omega), trivial⟩ ?_
          refine next (q + 1) rfl rfl ⟨rfl, trivial⟩ trivial ?_ ?_
          · omega
          · exact ⟨by omega, mt_end hq2 (by rw [(hc27 (by first | omega | (simp only [gOf, Bool.and_eq_true, Bool.or_eq_true, Bool.not_eq_true', decide_eq_true_eq, decide_eq_false_iff_not, Bool.not_eq_false', Bool.and_true, Bool.true_and, cond_true, cond_false] at *; omega)))]; simp [*])⟩
        · refine go tbv7ok 15 rfl rfl trivial ?_
          refine rt1 rfl rfl ?_
          refine ple ?_
          refine congrArg PV.bool ?_
          rw [hq2]
          by_cases hql : q < (wordsOf pattern).length
          · rw [mt_endN (hc27 (by first | omega | (simp only [gOf, Bool.and_eq_true, Bool.or_eq_true, Bool.not_eq_true', decide_eq_true_eq, decide_eq_false_iff_not, Bool.not_eq_false', Bool.and_true, Bool.true_and, cond_true, cond_false] at *; omega))) (by first | assumption | simp_all)]
            rw [decide_eq_false_iff_not]; omega
          · have hqe : q = (wordsOf pattern).length := by omega
            subst hqe
            rw [List.drop_length]; simp [mt]
end Go.SW.V
set_option linter.unusedVariables false
set_option maxRecDepth 100000
set_option maxHeartbeats 4000000
namespace Go.SW.V
open Go.SW Go.Proofs
theorem cb118 : Callable Tryz.prog 118 := callable_of Tryz.func118 (by kernel_rfl) (by kernel_rfl)
theorem cb135 : Callable Tryz.prog 135 := callable_of Tryz.func135 (by kernel_rfl) (by kernel_rfl)
theorem cb183 : Callable Tryz.prog 183 := callable_of Tryz.func183 (by kernel_rfl) (by kernel_rfl)
def tbv8 : Tb := [(2, ⟨.int .i64, 1, 8, [.int .i64 0]⟩),
  (3, ⟨.int .i64, 1, 8, [.int .i64 0]⟩),
  (5, ⟨.int .u8, 1, 1, [.int .u8 0]⟩),
  (9, ⟨.str, 1, 16, [.str []]⟩),
  (25, ⟨.int .u64, 1, 8, [.int .u64 0]⟩),
  (26, ⟨.slc 224, 1, 24, [.sl Pair.pc []]⟩),
  (219, ⟨.agg [(0, 1), (1, 1)], 2, 24, [.str [], .int .i64 0]⟩),
  (224, ⟨.agg [(0, 1), (1, 1), (2, 1), (3, 1)], 4, 48, [.str [], .int .u8 0, .int .i64 0, .str []]⟩)]
theorem tbv8ok : tbB Tryz.prog tbv8 = true := by kernel_rfl
theorem head_Bytes (h : List Pair) : Fn Tryz.prog gb 118 [.sl Pair.pc h] (.tup [.str (headBytes h), .int .i64 (headE h)]) := by
  refine fn_cw tbv8ok Tryz.func118 rfl Tryz.ntmps118 rfl cb118 rfl rfl fun w N H hG => ?_
  have h_l : h.length ≤ 140737488355328 := w.1.1
  refine go tbv8ok 10 rfl rfl trivial ?_
  refine call (head_Check _) rfl rfl fun w1 => ?_
  refine go tbv8ok 9 rfl rfl trivial ?_
  refine cnd rfl (fun h2 => ?_) (fun h2 => ?_)
  · have h3 := not_t h2
    have p4 := df h3
    refine go tbv8ok 9 rfl rfl trivial ?_
    refine rt2 rfl rfl ?_
    refine ple ?_
    unfold headBytes
    rw [if_neg (by omega)]
  · have h5 := not_f h2
    have p6 := dt h5
    refine go tbv8ok 7 rfl rfl trivial ?_
    refine q1 (qconv tbv8ok rfl rfl rfl rfl (rg_u64 (by omega))) rfl fun w7 => ?_
    refine call (out_Num (⟨[], 0⟩ : Out) _ _ (by first | omega | (have := hrl (by assumption); omega) | (simp [outNum, outRaw, numB_len, numK] <;> omega) | (have := hrl (by assumption); simp [outNum, outRaw, numB_len, numK] <;> omega))) rfl rfl fun w8 => ?_
    have nl0 : (⟨[], 0⟩ : Out).s.length = 0 := rfl
    have := outNum_len (⟨[], 0⟩ : Out) (h.length : Int) 1
    refine ef (alloc tbv8ok 0 rfl rfl rfl rfl fun b9 => ?_)
    refine ef (storeA tbv8ok rfl rfl rfl rfl rfl rfl rfl rfl rfl rfl ?_)
    refine go tbv8ok 11 rfl rfl trivial ?_
    refine loop (ι := Nat × Out) [0, 2, 3, 4, 5, 8, 9, 10, 11, 13, 14, 15, 16, 17, 18, 19] [] (fun ⟨k, o⟩ => [(20, .int .i64 (k : Int))]) (fun ⟨k, o⟩ => [(0, .box b9 219 [.str o.s, .int .i64 o.err])]) (fun ⟨k, o⟩ => k ≤ h.length ∧ h.foldl pairOut (outNum ⟨[], 0⟩ h.length 1) = (h.drop k).foldl pairOut o ∧ o.s.length ≤ 8 + 110 * k) (fun ⟨k, o⟩ => h.length - k) ⟨0, (outNum (⟨[], 0⟩ : Out) (h.length : Int) 1)⟩ ⟨rfl, trivial⟩ ⟨rfl, trivial⟩ ?_ ?_
    · exact ⟨Nat.zero_le _, rfl, by simp at *; omega⟩
    · rintro ⟨k, o⟩ hp10
      obtain ⟨hk1, hk2, hk3⟩ := hp10
      have hok := headE_ok (h := h) (by assumption)
      refine go tbv8ok 6 rfl rfl trivial ?_
      refine cnd rfl (fun h11 => ?_) (fun h11 => ?_)
      · have p12 := dt h11
        obtain ⟨c13, hc14⟩ := getE (xs := h) (m := k) (by omega)
        have hpk := hok.2 c13 (List.mem_of_getElem? hc14)
        have c13_w := Pair.pwf (w.1.2 c13 (List.mem_of_getElem? hc14))
        refine go tbv8ok 6 rfl rfl trivial ?_
        refine q1 (qidx tbv8ok k rfl rfl rfl hc14 rfl rfl rfl rfl) rfl fun w15 => ?_
        refine go tbv8ok 1 rfl rfl trivial ?_
        refine ef (alloc tbv8ok 1 rfl rfl rfl rfl fun b16 => ?_)
        refine ef (storeA tbv8ok rfl rfl rfl rfl rfl rfl rfl rfl rfl rfl ?_)
        refine go tbv8ok 3 rfl rfl trivial ?_
        refine any [2, 3, 4, 5, 6, 7] 9 mixd rfl ?_
        refine gov tbv8ok [0, 1, 2] 6 rfl (by kernel_rfl) rfl rfl trivial ?_
        refine vcall 3 rfl (by kernel_rfl) (out_Text _ _ (by first | omega | (have := hrl (by assumption); omega) | (simp [outNum, outRaw, numB_len, numK] <;> omega) | (have := hrl (by assumption); simp [outNum, outRaw, numB_len, numK] <;> omega))) rfl rfl fun w17 => ?_
        have := outText_len o c13.key
        refine gov tbv8ok [4, 5, 6] 2 rfl (by kernel_rfl) rfl rfl trivial ?_
        refine vcall 7 rfl (by kernel_rfl) (out_Num _ _ _ (by first | omega | (have := hrl (by assumption); omega) | (simp [outNum, outRaw, numB_len, numK] <;> omega) | (have := hrl (by assumption); simp [outNum, outRaw, numB_len, numK] <;> omega))) rfl rfl fun w18 => ?_
        have := outNum_len (outText o c13.key) c13.kind 1
        refine vt 8 rfl (by kernel_rfl) (by kernel_rfl) (storeA tbv8ok rfl rfl rfl rfl rfl rfl rfl rfl rfl rfl ?_)
        refine vdone (by kernel_rfl) ?_
        refine go tbv8ok 14 rfl rfl trivial ?_
        refine cnd rfl (fun h19 => ?_) (fun h19 => ?_)
        · have p20 := dt h19
          refine go tbv8ok 5 rfl rfl trivial ?_
          refine call (out_Num _ _ _ (by first | omega | (have := hrl (by assumption); omega) | (simp [outNum, outRaw, numB_len, numK] <;> omega) | (have := hrl (by assumption); simp [outNum, outRaw, numB_len, numK] <;> omega))) rfl rfl fun w21 => ?_
          have := outNum_len (outNum (outText o c13.key) c13.kind 1) (IntKind.wrap .u64 c13.num) 8
          refine ef (storeA tbv8ok rfl rfl rfl rfl rfl rfl rfl rfl rfl rfl ?_)
          refine go tbv8ok 8 rfl rfl ⟨(by omega), trivial⟩ ?_
          refine next ⟨(k + 1), (outNum (outNum (outText o c13.key) c13.kind 1) (IntKind.wrap .u64 c13.num) 8)⟩ rfl rfl ⟨rfl, trivial⟩ ⟨rfl, trivial⟩ ?_ ?_
          · simp only []; omega
          · have e : (outNum (outNum (outText o c13.key) c13.kind 1) (IntKind.wrap .u64 c13.num) 8) = pairOut o c13 := by unfold pairOut; first | (rw [if_pos (by omega)]; done) | (rw [if_neg (by omega), if_pos (by omega)]; done) | (rw [if_neg (by omega), if_neg (by omega), if_pos (by omega)]; done) | (rw [if_neg (by omega), if_neg (by omega), if_neg (by omega)]; done)
            simp only []
            rw [e]
            have hlo := pairOut_len (o := o) (hok.2 c13 (List.mem_of_getElem? hc14))
            refine ⟨by omega, ?_, by omega⟩
            rw [hk2, dropE hc14, List.foldl_cons]
        · have p22 := df h19
          refine go tbv8ok 6 rfl rfl trivial ?_
          refine cnd rfl (fun h23 => ?_) (fun h23 => ?_)
          · have p24 := dt h23
            refine go tbv8ok 4 rfl rfl trivial ?_
            refine call (out_Text _ _ (by first | omega | (have := hrl (by assumption); omega) | (simp [outNum, outRaw, numB_len, numK] <;> omega) | (have := hrl (by assumption); simp [outNum, outRaw, numB_len, numK] <;> omega))) rfl rfl fun w25 => ?_
            have := outText_len (outNum (outText o c13.key) c13.kind 1) c13.text
            refine ef (storeA tbv8ok rfl rfl rfl rfl rfl rfl rfl rfl rfl rfl ?_)
            refine go tbv8ok 8 rfl rfl ⟨(by omega), trivial⟩ ?_
            refine next ⟨(k + 1), (outText (outNum (outText o c13.key) c13.kind 1) c13.text)⟩ rfl rfl ⟨rfl, trivial⟩ ⟨rfl, trivial⟩ ?_ ?_
            · simp only []; omega
            · have e : (outText (outNum (outText o c13.key) c13.kind 1) c13.text) = pairOut o c13 := by unfold pairOut; first | (rw [if_pos (by omega)]; done) | (rw [if_neg (by omega), if_pos (by omega)]; done) | (rw [if_neg (by omega), if_neg (by omega), if_pos (by omega)]; done) | (rw [if_neg (by omega), if_neg (by omega), if_neg (by omega)]; done)
              simp only []
              rw [e]
              have hlo := pairOut_len (o := o) (hok.2 c13 (List.mem_of_getElem? hc14))
              refine ⟨by omega, ?_, by omega⟩
              rw [hk2, dropE hc14, List.foldl_cons]
          · have p26 := df h23
            refine go tbv8ok 6 rfl rfl trivial ?_
            refine cnd rfl (fun h27 => ?_) (fun h27 => ?_)
            · have p28 := dt h27
              refine go tbv8ok 5 rfl rfl trivial ?_
              refine call (out_Num _ _ _ (by first | omega | (have := hrl (by assumption); omega) | (simp [outNum, outRaw, numB_len, numK] <;> omega) | (have := hrl (by assumption); simp [outNum, outRaw, numB_len, numK] <;> omega))) rfl rfl fun w29 => ?_
              have := outNum_len (outNum (outText o c13.key) c13.kind 1) (IntKind.wrap .u64 c13.num) 1
              refine ef (storeA tbv8ok rfl rfl rfl rfl rfl rfl rfl rfl rfl rfl ?_)
              refine go tbv8ok 8 rfl rfl ⟨(by omega), trivial⟩ ?_
              refine next ⟨(k + 1), (outNum (outNum (outText o c13.key) c13.kind 1) (IntKind.wrap .u64 c13.num) 1)⟩ rfl rfl ⟨rfl, trivial⟩ ⟨rfl, trivial⟩ ?_ ?_
              · simp only []; omega
              · have e : (outNum (outNum (outText o c13.key) c13.kind 1) (IntKind.wrap .u64 c13.num) 1) = pairOut o c13 := by unfold pairOut; first | (rw [if_pos (by omega)]; done) | (rw [if_neg (by omega), if_pos (by omega)]; done) | (rw [if_neg (by omega), if_neg (by omega), if_pos (by omega)]; done) | (rw [if_neg (by omega), if_neg (by omega), if_neg (by omega)]; done)
                simp only []
                rw [e]
                have hlo := pairOut_len (o := o) (hok.2 c13 (List.mem_of_getElem? hc14))
                refine ⟨by omega, ?_, by omega⟩
                rw [hk2, dropE hc14, List.foldl_cons]
            · have p30 := df h27
              refine go tbv8ok 8 rfl rfl ⟨(by omega), trivial⟩ ?_
              refine next ⟨(k + 1), (outNum (outText o c13.key) c13.kind 1)⟩ rfl rfl ⟨rfl, trivial⟩ ⟨rfl, trivial⟩ ?_ ?_
              · simp only []; omega
              · have e : (outNum (outText o c13.key) c13.kind 1) = pairOut o c13 := by unfold pairOut; first | (rw [if_pos (by omega)]; done) | (rw [if_neg (by omega), if_pos (by omega)]; done) | (rw [if_neg (by omega), if_neg (by omega), if_pos (by omega)]; done) | (rw [if_neg (by omega), if_neg (by omega), if_neg (by omega)]; done)
                simp only []
                rw [e]
                have hlo := pairOut_len (o := o) (hok.2 c13 (List.mem_of_getElem? hc14))
                refine ⟨by omega, ?_, by omega⟩
                rw [hk2, dropE hc14, List.foldl_cons]
      · have p31 := df h11
        refine go tbv8ok 8 rfl rfl trivial ?_
        refine call (out_String _) rfl rfl fun w32 => ?_
        refine go tbv8ok 5 rfl rfl trivial ?_
        refine rt2 rfl rfl ?_
        refine ple ?_
        unfold headBytes
        rw [if_pos (by assumption)]
        rw [List.drop_of_length_le (by omega), List.foldl_nil] at hk2
        rw [show headOut h = o from hk2]
        have e0 : headE h = 0 := by assumption
        rw [e0]
theorem head_one (i : In) : Fm Tryz.prog gb 183 [] 237 (In.pc i) (.agg (Pair.pc (((readOne i)).1))) (In.pc (((readOne i)).2)) := by
  refine fm_cw tbv8ok Tryz.func183 rfl Tryz.ntmps183 rfl cb183 rfl rfl rfl rfl fun w wp b N H hG => ?_
  refine go tbv8ok 2 rfl rfl trivial ?_
  refine ef (alloc tbv8ok 1 rfl rfl rfl rfl fun b1 => ?_)
  refine go tbv8ok 5 rfl rfl trivial ?_
  refine ef (ecallm (in_Text _ _) rfl rfl rfl rfl rfl fun w2 w2p => ?_)
  have := inText_len i 16
  generalize hg4 : inText i 16 = g3 at *
  refine go tbv8ok 1 rfl rfl trivial ?_
  refine ef (ecallm (in_Num _ _) rfl rfl rfl rfl rfl fun w5 w5p => ?_)
  have := inNum_r ((g3).2) 1
  generalize hg7 : inNum ((g3).2) 1 = g6 at *
  refine q1 (qconv tbv8ok rfl rfl rfl rfl (rg_u8 (by omega))) rfl fun w8 => ?_
  refine go tbv8ok 1 rfl rfl trivial ?_
  refine ef (alloc tbv8ok 2 rfl rfl rfl rfl fun b9 => ?_)
  refine ef (storeA tbv8ok rfl rfl rfl rfl rfl rfl rfl rfl rfl rfl ?_)
  refine go tbv8ok 16 rfl rfl trivial ?_
  refine cnd rfl (fun h10 => ?_) (fun h10 => ?_)
  · have p11 := dt h10
    refine go tbv8ok 2 rfl rfl trivial ?_
    refine ef (ecallm (in_Num _ _) rfl rfl rfl rfl rfl fun w12 w12p => ?_)
    have := inNum_r ((g6).2) 8
    generalize hg14 : inNum ((g6).2) 8 = g13 at *
    refine go tbv8ok 2 rfl rfl trivial ?_
    refine ef (store1 tbv8ok rfl rfl rfl rfl rfl rfl rfl rfl rfl ?_)
    refine go tbv8ok 6 rfl rfl trivial ?_
    refine ef (storeA tbv8ok rfl rfl rfl rfl rfl rfl rfl rfl rfl rfl ?_)
    refine go tbv8ok 3 rfl rfl trivial ?_
    refine rm1 rfl rfl ?_ rfl rfl rfl ?_
    have e : readOne i = ((⟨(g3).1, (g6).1, (IntKind.wrap .i64 ((g13).1)), []⟩ : Pair), ((g13).2)) := by unfold readOne; simp only; (repeat first | simp only [hg4, hg7, hg14] | rw [if_pos (by omega)] | rw [if_neg (by omega)]); all_goals first | rfl | (rw [wrap_i64s (by omega) (by omega)]; done) | (simp [*]; done) | (rw [wrap_i64s (by omega) (by omega)]; simp [*]; done)
    · exact ple (by first | (rw [e]; done) | (rw [e]; rfl))
    have e : readOne i = ((⟨(g3).1, (g6).1, (IntKind.wrap .i64 ((g13).1)), []⟩ : Pair), ((g13).2)) := by unfold readOne; simp only; (repeat first | simp only [hg4, hg7, hg14] | rw [if_pos (by omega)] | rw [if_neg (by omega)]); all_goals first | rfl | (rw [wrap_i64s (by omega) (by omega)]; done) | (simp [*]; done) | (rw [wrap_i64s (by omega) (by omega)]; simp [*]; done)
    exact ples (by first | (rw [e]; done) | (rw [e]; rfl))
  · have p15 := df h10
    refine go tbv8ok 6 rfl rfl trivial ?_
    refine cnd rfl (fun h16 => ?_) (fun h16 => ?_)
    · have p17 := dt h16
      refine go tbv8ok 2 rfl rfl trivial ?_
      refine ef (ecallm (in_Text _ _) rfl rfl rfl rfl rfl fun w18 w18p => ?_)
      have := inText_len ((g6).2) 64
      generalize hg20 : inText ((g6).2) 64 = g19 at *
      refine go tbv8ok 1 rfl rfl trivial ?_
      refine ef (store1 tbv8ok rfl rfl rfl rfl rfl rfl rfl rfl rfl ?_)
      refine go tbv8ok 6 rfl rfl trivial ?_
      refine ef (storeA tbv8ok rfl rfl rfl rfl rfl rfl rfl rfl rfl rfl ?_)
      refine go tbv8ok 3 rfl rfl trivial ?_
      refine rm1 rfl rfl ?_ rfl rfl rfl ?_
      have e : readOne i = ((⟨(g3).1, (g6).1, 0, (g19).1⟩ : Pair), ((g19).2)) := by unfold readOne; simp only; (repeat first | simp only [hg4, hg7, hg20] | rw [if_pos (by omega)] | rw [if_neg (by omega)]); all_goals first | rfl | (rw [wrap_i64s (by omega) (by omega)]; done) | (simp [*]; done) | (rw [wrap_i64s (by omega) (by omega)]; simp [*]; done)
      · exact ple (by first | (rw [e]; done) | (rw [e]; rfl))
      have e : readOne i = ((⟨(g3).1, (g6).1, 0, (g19).1⟩ : Pair), ((g19).2)) := by unfold readOne; simp only; (repeat first | simp only [hg4, hg7, hg20] | rw [if_pos (by omega)] | rw [if_neg (by omega)]); all_goals first | rfl | (rw [wrap_i64s (by omega) (by omega)]; done) | (simp [*]; done) | (rw [wrap_i64s (by omega) (by omega)]; simp [*]; done)
      exact ples (by first | (rw [e]; done) | (rw [e]; rfl))
    · have p21 := df h16
      refine go tbv8ok 6 rfl rfl trivial ?_
      refine cnd rfl (fun h22 => ?_) (fun h22 => ?_)
      · have p23 := dt h22
        refine go tbv8ok 2 rfl rfl trivial ?_
        refine ef (ecallm (in_Num _ _) rfl rfl rfl rfl rfl fun w24 w24p => ?_)
        have := inNum_r ((g6).2) 1
        generalize hg26 : inNum ((g6).2) 1 = g25 at *
        refine q1 (qconv tbv8ok rfl rfl rfl rfl (rg_i64 (by omega))) rfl fun w27 => ?_
        refine go tbv8ok 1 rfl rfl trivial ?_
        refine ef (store1 tbv8ok rfl rfl rfl rfl rfl rfl rfl rfl rfl ?_)
        refine go tbv8ok 6 rfl rfl trivial ?_
        refine ef (storeA tbv8ok rfl rfl rfl rfl rfl rfl rfl rfl rfl rfl ?_)
        refine go tbv8ok 3 rfl rfl trivial ?_
        refine rm1 rfl rfl ?_ rfl rfl rfl ?_
        have e : readOne i = ((⟨(g3).1, (g6).1, (g25).1, []⟩ : Pair), ((g25).2)) := by unfold readOne; simp only; (repeat first | simp only [hg4, hg7, hg26] | rw [if_pos (by omega)] | rw [if_neg (by omega)]); all_goals first | rfl | (rw [wrap_i64s (by omega) (by omega)]; done) | (simp [*]; done) | (rw [wrap_i64s (by omega) (by omega)]; simp [*]; done)
        · exact ple (by first | (rw [e]; done) | (rw [e]; rfl))
        have e : readOne i = ((⟨(g3).1, (g6).1, (g25).1, []⟩ : Pair), ((g25).2)) := by unfold readOne; simp only; (repeat first | simp only [hg4, hg7, hg26] | rw [if_pos (by omega)] | rw [if_neg (by omega)]); all_goals first | rfl | (rw [wrap_i64s (by omega) (by omega)]; done) | (simp [*]; done) | (rw [wrap_i64s (by omega) (by omega)]; simp [*]; done)
        exact ples (by first | (rw [e]; done) | (rw [e]; rfl))
      · have p28 := df h22
        refine go tbv8ok 2 rfl rfl trivial ?_
        refine ef (ecallm (in_Fail _ _) rfl rfl rfl rfl rfl fun w29 w29p => ?_)
        refine go tbv8ok 6 rfl rfl trivial ?_
        refine ef (storeA tbv8ok rfl rfl rfl rfl rfl rfl rfl rfl rfl rfl ?_)
        refine go tbv8ok 3 rfl rfl trivial ?_
        refine rm1 rfl rfl ?_ rfl rfl rfl ?_
        have e : readOne i = ((⟨(g3).1, (g6).1, 0, []⟩ : Pair), (inFail ((g6).2) 8)) := by unfold readOne; simp only; (repeat first | simp only [hg4, hg7] | rw [if_pos (by omega)] | rw [if_neg (by omega)]); all_goals first | rfl | (rw [wrap_i64s (by omega) (by omega)]; done) | (simp [*]; done) | (rw [wrap_i64s (by omega) (by omega)]; simp [*]; done)
        · exact ple (by first | (rw [e]; done) | (rw [e]; rfl))
        have e : readOne i = ((⟨(g3).1, (g6).1, 0, []⟩ : Pair), (inFail ((g6).2) 8)) := by unfold readOne; simp only; (repeat first | simp only [hg4, hg7] | rw [if_pos (by omega)] | rw [if_neg (by omega)]); all_goals first | rfl | (rw [wrap_i64s (by omega) (by omega)]; done) | (simp [*]; done) | (rw [wrap_i64s (by omega) (by omega)]; simp [*]; done)
        exact ples (by first | (rw [e]; done) | (rw [e]; rfl))
theorem head_Read (i : In) : Fm Tryz.prog gb 135 [] 237 (In.pc i) (.sl Pair.pc (((headRead i)).1)) (In.pc (((headRead i)).2)) := by
  refine fm_cw tbv8ok Tryz.func135 rfl Tryz.ntmps135 rfl cb135 rfl rfl rfl rfl fun w wp b N H hG => ?_
  refine go tbv8ok 8 rfl rfl trivial ?_
  refine ef (ecallm (in_Num _ _) rfl rfl rfl rfl rfl fun w1 w1p => ?_)
  have := inNum_r i 1
  generalize hg3 : inNum i 1 = g2 at *
  refine q1 (qconv tbv8ok rfl rfl rfl rfl (rg_i64 (by omega))) rfl fun w4 => ?_
  refine go tbv8ok 10 rfl rfl trivial ?_
  refine cnd rfl (fun h5 => ?_) (fun h5 => ?_)
  · have p6 := dt h5
    refine go tbv8ok 2 rfl rfl trivial ?_
    refine ef (ecallm (in_Fail _ _) rfl rfl rfl rfl rfl fun w7 w7p => ?_)
    refine go tbv8ok 15 rfl rfl trivial ?_
    refine sw_own (t := 4) (k := 4) (e := 224) 1 Pair.pc rfl rfl ?_
    refine loop (ι := Nat × (List Pair) × Value × In) [0, 3, 6, 7, 8, 9, 10, 11, 13] [] (fun ⟨k, h, u_h, j⟩ => [(4, .osl 1), (14, .int .i64 (k : Int))]) (fun ⟨k, h, u_h, j⟩ => [(1, .arr u_h 4 224 Pair.pc h), (0, .box b 237 [.str j.s, .int .i64 j.err])]) (fun ⟨k, h, u_h, j⟩ => k ≤ ((g2).1).toNat ∧ headRead i = readGo (((g2).1).toNat - k) j h ∧ h.length ≤ k) (fun ⟨k, h, u_h, j⟩ => ((g2).1).toNat - k) ⟨0, [], (.slice none 0 0), (inFail ((g2).2) 6)⟩ ⟨rfl, rfl, trivial⟩ ⟨rfl, rfl, trivial⟩ ?_ ?_
    · exact ⟨Nat.zero_le _, by unfold headRead; (repeat first | simp only [hg3] | rw [if_pos (by omega)] | rw [if_neg (by omega)]); all_goals rfl, Nat.zero_le _⟩
    · rintro ⟨k, h, u_h, j⟩ hp8
      obtain ⟨hk1, hk2, hk3⟩ := hp8
      refine go tbv8ok 6 rfl rfl trivial ?_
      refine cnd rfl (fun h9 => ?_) (fun h9 => ?_)
      · have p10 := dt h9
        refine go tbv8ok 7 rfl rfl trivial ?_
        refine ef (ecallm (head_one _) rfl rfl rfl rfl rfl fun w11 w11p => ?_)
        generalize hg13 : readOne j = g12 at *
        refine ef (alloc tbv8ok 2 rfl rfl rfl rfl fun b14 => ?_)
        refine ef (storeA tbv8ok rfl rfl rfl rfl rfl rfl rfl rfl rfl rfl ?_)
        refine go tbv8ok 6 rfl rfl trivial ?_
        refine ef (ecallm (in_Err _) rfl rfl rfl rfl rfl fun w15 w15p => ?_)
        refine go tbv8ok 3 rfl rfl trivial ?_
        refine cnd rfl (fun h16 => ?_) (fun h16 => ?_)
        · have p17 := dt h16
          refine go tbv8ok 4 rfl rfl trivial ?_
          refine ef (calll 1 rfl (head_pair _ _) rfl rfl rfl fun w18 => ?_)
          have := pairErr_r ((g12).1) h
          generalize hg20 : pairErr ((g12).1) h = g19 at *
          refine ef (ecallm (in_Fail _ _) rfl rfl rfl rfl rfl fun w21 w21p => ?_)
          refine go tbv8ok 6 rfl rfl trivial ?_
          refine ef (ecallm (in_Err _) rfl rfl rfl rfl rfl fun w22 w22p => ?_)
          refine go tbv8ok 3 rfl rfl trivial ?_
          refine cnd rfl (fun h23 => ?_) (fun h23 => ?_)
          · have h24 := not_t h23
            have p25 := df h24
            refine go tbv8ok 12 rfl rfl trivial ?_
            refine rm1 rfl rfl ?_ rfl rfl rfl ?_
            · have e : headRead i = ([], (inFail ((g12).2) g19)) := by
                rw [hk2, show ((g2).1).toNat - k = (((g2).1).toNat - (k + 1)) + 1 by omega]
                have z := fun k => readGo_er1 (k := k) (h := h) (show readOne j = (g12.1, g12.2) from hg13) (by omega) (by rw [hg20]; omega)
                rw [hg20] at z
                exact z _
              exact ple_nilx (by rw [e])
            have e : headRead i = ([], (inFail ((g12).2) g19)) := by
              rw [hk2, show ((g2).1).toNat - k = (((g2).1).toNat - (k + 1)) + 1 by omega]
              have z := fun k => readGo_er1 (k := k) (h := h) (show readOne j = (g12.1, g12.2) from hg13) (by omega) (by rw [hg20]; omega)
              rw [hg20] at z
              exact z _
            exact ples (by first | (rw [e]; done) | (rw [e]; rfl))
          · have h26 := not_f h23
            have p27 := dt h26
            refine go tbv8ok 5 rfl rfl trivial ?_
            refine ef (bsl 3 Pair.pc [((g12).1)] tbv8ok rfl rfl rfl rfl rfl (fun _ => rfl) rfl (by decide) (by decide) rfl fun u28 => ?_)
            refine ef (app tbv8ok [((g12).1)] rfl rfl rfl rfl rfl rfl rfl rfl rfl (src_o rfl rfl) (by first | omega | (simp; omega)) rfl fun u29 => ?_)
            refine go tbv8ok 8 rfl rfl ⟨(by omega), trivial⟩ ?_
            refine next ⟨(k + 1), (h ++ [((g12).1)]), (u29), (inFail ((g12).2) g19)⟩ rfl rfl ⟨rfl, rfl, trivial⟩ ⟨rfl, rfl, trivial⟩ ?_ ?_
            · simp only []; omega
            · refine ⟨by omega, ?_, by simp; omega⟩
              rw [hk2, show ((g2).1).toNat - k = (((g2).1).toNat - (k + 1)) + 1 by omega]
              have z := fun k => readGo_ok (k := k) (h := h) (show readOne j = (g12.1, g12.2) from hg13) (by omega) (by rw [hg20]; omega)
              rw [hg20] at z
              exact z _
        · have p30 := df h16
          refine go tbv8ok 6 rfl rfl trivial ?_
          refine ef (ecallm (in_Err _) rfl rfl rfl rfl rfl fun w31 w31p => ?_)
          refine go tbv8ok 3 rfl rfl trivial ?_
          refine cndT rfl (by rw [h16] <;> rfl) ?_
          refine go tbv8ok 12 rfl rfl trivial ?_
          refine rm1 rfl rfl ?_ rfl rfl rfl ?_
          · have e : headRead i = ([], ((g12).2)) := by
              rw [hk2, show ((g2).1).toNat - k = (((g2).1).toNat - (k + 1)) + 1 by omega]
              exact readGo_er0 (show readOne j = (g12.1, g12.2) from hg13) (by omega)
            exact ple_nilx (by rw [e])
          have e : headRead i = ([], ((g12).2)) := by
            rw [hk2, show ((g2).1).toNat - k = (((g2).1).toNat - (k + 1)) + 1 by omega]
            exact readGo_er0 (show readOne j = (g12.1, g12.2) from hg13) (by omega)
          exact ples (by first | (rw [e]; done) | (rw [e]; rfl))
      · have p32 := df h9
        refine go tbv8ok 11 rfl rfl trivial ?_
        refine givec 1 rfl ?_
        refine go tbv8ok 1 rfl rfl trivial ?_
        refine rm1 rfl rfl ?_ rfl rfl rfl ?_
        · have e : headRead i = (h, j) := by
            rw [hk2, show ((g2).1).toNat - k = 0 by omega]
            rfl
          exact ple (by rw [e])
        have e : headRead i = (h, j) := by
          rw [hk2, show ((g2).1).toNat - k = 0 by omega]
          rfl
        exact ples (by first | (rw [e]; done) | (rw [e]; rfl))
  · have p33 := df h5
    refine go tbv8ok 15 rfl rfl trivial ?_
    refine sw_own (t := 4) (k := 4) (e := 224) 1 Pair.pc rfl rfl ?_
    refine loop (ι := Nat × (List Pair) × Value × In) [0, 3, 6, 7, 8, 9, 10, 13] [] (fun ⟨k, h, u_h, j⟩ => [(4, .osl 1), (14, .int .i64 (k : Int))]) (fun ⟨k, h, u_h, j⟩ => [(1, .arr u_h 4 224 Pair.pc h), (0, .box b 237 [.str j.s, .int .i64 j.err])]) (fun ⟨k, h, u_h, j⟩ => k ≤ ((g2).1).toNat ∧ headRead i = readGo (((g2).1).toNat - k) j h ∧ h.length ≤ k) (fun ⟨k, h, u_h, j⟩ => ((g2).1).toNat - k) ⟨0, [], (.slice none 0 0), ((g2).2)⟩ ⟨rfl, rfl, trivial⟩ ⟨rfl, rfl, trivial⟩ ?_ ?_
    · exact ⟨Nat.zero_le _, by unfold headRead; (repeat first | simp only [hg3] | rw [if_pos (by omega)] | rw [if_neg (by omega)]); all_goals rfl, Nat.zero_le _⟩
    · rintro ⟨k, h, u_h, j⟩ hp34
      obtain ⟨hk1, hk2, hk3⟩ := hp34
      refine go tbv8ok 6 rfl rfl trivial ?_
      refine cnd rfl (fun h35 => ?_) (fun h35 => ?_)
      · have p36 := dt h35
        refine go tbv8ok 7 rfl rfl trivial ?_
        refine ef (ecallm (head_one _) rfl rfl rfl rfl rfl fun w37 w37p => ?_)
        generalize hg39 : readOne j = g38 at *
        refine ef (alloc tbv8ok 2 rfl rfl rfl rfl fun b40 => ?_)
        refine ef (storeA tbv8ok rfl rfl rfl rfl rfl rfl rfl rfl rfl rfl ?_)
        refine go tbv8ok 6 rfl rfl trivial ?_
        refine ef (ecallm (in_Err _) rfl rfl rfl rfl rfl fun w41 w41p => ?_)
        refine go tbv8ok 3 rfl rfl trivial ?_
        refine cnd rfl (fun h42 => ?_) (fun h42 => ?_)
        · have p43 := dt h42
          refine go tbv8ok 4 rfl rfl trivial ?_
          refine ef (calll 1 rfl (head_pair _ _) rfl rfl rfl fun w44 => ?_)
          have := pairErr_r ((g38).1) h
          generalize hg46 : pairErr ((g38).1) h = g45 at *
          refine ef (ecallm (in_Fail _ _) rfl rfl rfl rfl rfl fun w47 w47p => ?_)
          refine go tbv8ok 6 rfl rfl trivial ?_
          refine ef (ecallm (in_Err _) rfl rfl rfl rfl rfl fun w48 w48p => ?_)
          refine go tbv8ok 3 rfl rfl trivial ?_
          refine cnd rfl (fun h49 => ?_) (fun h49 => ?_)
          · have h50 := not_t h49
            have p51 := df h50
            refine go tbv8ok 12 rfl rfl trivial ?_
            refine rm1 rfl rfl ?_ rfl rfl rfl ?_
            · have e : headRead i = ([], (inFail ((g38).2) g45)) := by
                rw [hk2, show ((g2).1).toNat - k = (((g2).1).toNat - (k + 1)) + 1 by omega]
                have z := fun k => readGo_er1 (k := k) (h := h) (show readOne j = (g38.1, g38.2) from hg39) (by omega) (by rw [hg46]; omega)
                rw [hg46] at z
                exact z _
              exact ple_nilx (by rw [e])
            have e : headRead i = ([], (inFail ((g38).2) g45)) := by
              rw [hk2, show ((g2).1).toNat - k = (((g2).1).toNat - (k + 1)) + 1 by omega]
              have z := fun k => readGo_er1 (k := k) (h := h) (show readOne j = (g38.1, g38.2) from hg39) (by omega) (by rw [hg46]; omega)
              rw [hg46] at z
              exact z _
            exact ples (by first | (rw [e]; done) | (rw [e]; rfl))
          · have h52 := not_f h49
            have p53 := dt h52
            refine go tbv8ok 5 rfl rfl trivial ?_
            refine ef (bsl 3 Pair.pc [((g38).1)] tbv8ok rfl rfl rfl rfl rfl (fun _ => rfl) rfl (by decide) (by decide) rfl fun u54 => ?_)
            refine ef (app tbv8ok [((g38).1)] rfl rfl rfl rfl rfl rfl rfl rfl rfl (src_o rfl rfl) (by first | omega | (simp; omega)) rfl fun u55 => ?_)
            refine go tbv8ok 8 rfl rfl ⟨(by omega), trivial⟩ ?_
            refine next ⟨(k + 1), (h ++ [((g38).1)]), (u55), (inFail ((g38).2) g45)⟩ rfl rfl ⟨rfl, rfl, trivial⟩ ⟨rfl, rfl, trivial⟩ ?_ ?_
            · simp only []; omega
            · refine ⟨by omega, ?_, by simp; omega⟩
              rw [hk2, show ((g2).1).toNat - k = (((g2).1).toNat - (k + 1)) + 1 by omega]
              have z := fun k => readGo_ok (k := k) (h := h) (show readOne j = (g38.1, g38.2) from hg39) (by omega) (by rw [hg46]; omega)
              rw [hg46] at z
              exact z _
        · have p56 := df h42
          refine go tbv8ok 6 rfl rfl trivial ?_
          refine ef (ecallm (in_Err _) rfl rfl rfl rfl rfl fun w57 w57p => ?_)
          refine go tbv8ok 3 rfl rfl trivial ?_
          refine cndT rfl (by rw [h42] <;> rfl) ?_
          refine go tbv8ok 12 rfl rfl trivial ?_
          refine rm1 rfl rfl ?_ rfl rfl rfl ?_
          · have e : headRead i = ([], ((g38).2)) := by
              rw [hk2, show ((g2).1).toNat - k = (((g2).1).toNat - (k + 1)) + 1 by omega]
              exact readGo_er0 (show readOne j = (g38.1, g38.2) from hg39) (by omega)
            exact ple_nilx (by rw [e])
          have e : headRead i = ([], ((g38).2)) := by
            rw [hk2, show ((g2).1).toNat - k = (((g2).1).toNat - (k + 1)) + 1 by omega]
            exact readGo_er0 (show readOne j = (g38.1, g38.2) from hg39) (by omega)
          exact ples (by first | (rw [e]; done) | (rw [e]; rfl))
      · have p58 := df h35
        refine go tbv8ok 11 rfl rfl trivial ?_
        refine givec 1 rfl ?_
        refine go tbv8ok 1 rfl rfl trivial ?_
        refine rm1 rfl rfl ?_ rfl rfl rfl ?_
        · have e : headRead i = (h, j) := by
            rw [hk2, show ((g2).1).toNat - k = 0 by omega]
            rfl
          exact ple (by rw [e])
        have e : headRead i = (h, j) := by
          rw [hk2, show ((g2).1).toNat - k = 0 by omega]
          rfl
        exact ples (by first | (rw [e]; done) | (rw [e]; rfl))
end Go.SW.V
set_option linter.unusedVariables false
set_option maxRecDepth 100000
set_option maxHeartbeats 4000000
namespace Go.SW.V
open Go.SW Go.Proofs
theorem cb125 : Callable Tryz.prog 125 := callable_of Tryz.func125 (by kernel_rfl) (by kernel_rfl)
theorem cb179 : Callable Tryz.prog 179 := callable_of Tryz.func179 (by kernel_rfl) (by kernel_rfl)
theorem cb57 : Callable Tryz.prog 57 := callable_of Tryz.func57 (by kernel_rfl) (by kernel_rfl)
theorem cb62 : Callable Tryz.prog 62 := callable_of Tryz.func62 (by kernel_rfl) (by kernel_rfl)
theorem sz228 : Sz Tryz.prog 228 1 := fun w => by kernel_rfl
def tbv10 : Tb := [(5, ⟨.int .u8, 1, 1, [.int .u8 0]⟩),
  (9, ⟨.str, 1, 16, [.str []]⟩),
  (25, ⟨.int .u64, 1, 8, [.int .u64 0]⟩),
  (50, ⟨.agg [(0, 1), (1, 1), (2, 1)], 3, 24, [.int .u8 0, .int .u8 0, .str []]⟩),
  (219, ⟨.agg [(0, 1), (1, 1)], 2, 24, [.str [], .int .i64 0]⟩),
  (225, ⟨.slc 9, 1, 24, [.sl strc []]⟩),
  (228, ⟨.int .u32, 1, 4, [.int .u32 0]⟩)]
theorem tbv10ok : tbB Tryz.prog tbv10 = true := by kernel_rfl
theorem crc_Step (r : Int) (b : Int) : Fn Tryz.prog gb 179 [.int .u32 r, .int .u8 b] (.int .u32 (crcStep r b)) := by
  refine fn_cw tbv10ok Tryz.func179 rfl Tryz.ntmps179 rfl cb179 rfl rfl fun w N H hG => ?_
  have r_r : 0 ≤ r ∧ r ≤ 4294967295 := w.1
  have b_r : 0 ≤ b ∧ b ≤ 255 := w.2.1
  have := wr_u32 ((BitVec.ofInt (IntKind.bits .u32) r ^^^ BitVec.ofInt (IntKind.bits .u32) b).toNat)
  refine go tbv10ok 21 rfl rfl trivial ?_
  refine loop (ι := Nat × Int) [1, 4, 5, 6, 7, 8] [] (fun ⟨k, q⟩ => [(0, .int .u32 q), (9, .int .i64 (k : Int))]) (fun ⟨k, q⟩ => []) (fun ⟨k, q⟩ => k ≤ 2 ∧ crcIt (2 - k) q = crcStep r b) (fun ⟨k, q⟩ => 2 - k) ⟨0, (xor32 r b)⟩ ⟨rfl, rfl, trivial⟩ trivial ?_ ?_
  · exact ⟨Nat.zero_le _, rfl⟩
  · rintro ⟨k, q⟩ hp1
    obtain ⟨hk1, hk2⟩ := hp1
    refine go tbv10ok 6 rfl rfl trivial ?_
    refine cnd rfl (fun h2 => ?_) (fun h2 => ?_)
    · have p3 := dt h2
      have := wr_u32 ((BitVec.ofInt (IntKind.bits .u32) q &&& BitVec.ofInt (IntKind.bits .u32) 15).toNat)
      refine go tbv10ok 9 rfl rfl ⟨(by omega), trivial⟩ ?_
      refine q1 (qgtab (m := ((IntKind.wrap .u32 ((BitVec.ofInt (IntKind.bits .u32) q &&& BitVec.ofInt (IntKind.bits .u32) 15).toNat))).toNat) laidT (by decide) (fun _ h => gbCrc h) rfl Tryz.underlying320 sz228 (by omega) (and15_lt _) rfl) rfl fun w4 => ?_
      have := wr_u32 ((BitVec.ofInt (IntKind.bits .u32) (Int.fdiv q (2 ^ (min (4 : Int).toNat (IntKind.bits .u32)))) ^^^ BitVec.ofInt (IntKind.bits .u32) (laidT.getD ((IntKind.wrap .u32 ((BitVec.ofInt (IntKind.bits .u32) q &&& BitVec.ofInt (IntKind.bits .u32) 15).toNat))).toNat 0)).toNat)
      refine go tbv10ok 10 rfl rfl ⟨(by omega), trivial⟩ ?_
      refine next ⟨(k + 1), (crc1 q)⟩ rfl rfl ⟨rfl, rfl, trivial⟩ trivial ?_ ?_
      · (try simp only []); omega
      · try simp only []
        refine ⟨by omega, ?_⟩
        rw [← hk2, show 2 - k = (2 - (k + 1)) + 1 by omega]
        rfl
    · have p5 := df h2
      refine go tbv10ok 12 rfl rfl trivial ?_
      refine rt1 rfl rfl ?_
      refine ple ?_
      obtain rfl : k = 2 := by omega
      exact congrArg (PV.int .u32) hk2
theorem crc_Sum (parts : List Bs) : Fn Tryz.prog gb 125 [.sl strc parts] (.int .u32 (crcSum parts)) := by
  refine fn_cw tbv10ok Tryz.func125 rfl Tryz.ntmps125 rfl cb125 rfl rfl fun w N H hG => ?_
  have parts_l : parts.length ≤ 140737488355328 := w.1.1
  refine go tbv10ok 19 rfl rfl trivial ?_
  refine loop (ι := Nat × Int) [0, 2, 7, 8] [] (fun ⟨k, r⟩ => [(3, .int .u32 r), (9, .int .i64 (k : Int))]) (fun ⟨k, r⟩ => []) (fun ⟨k, r⟩ => k ≤ parts.length ∧ parts.foldl crcB 4294967295 = (parts.drop k).foldl crcB r ∧ 0 ≤ r ∧ r ≤ 4294967295) (fun ⟨k, r⟩ => parts.length - k) ⟨0, 4294967295⟩ ⟨rfl, rfl, trivial⟩ trivial ?_ ?_
  · exact ⟨Nat.zero_le _, rfl, by omega, by omega⟩
  · rintro ⟨k, r⟩ hp1
    obtain ⟨hk1, hk2, hk3, hk4⟩ := hp1
    refine go tbv10ok 6 rfl rfl trivial ?_
    refine cnd rfl (fun h2 => ?_) (fun h2 => ?_)
    · have p3 := dt h2
      obtain ⟨c4, hc5⟩ := getE (xs := parts) (m := k) (by omega)
      have c4_l : c4.length ≤ 9223372036854775807 := (w.1.2 c4 (List.mem_of_getElem? hc5)).1
      refine go tbv10ok 6 rfl rfl trivial ?_
      refine q1 (qidx tbv10ok k rfl rfl rfl hc5 rfl rfl rfl rfl) rfl fun w6 => ?_
      refine go tbv10ok 12 rfl rfl trivial ?_
      refine loop (ι := Nat × Int) [0, 2, 5, 7, 8, 9, 10, 11, 12, 13, 14] [] (fun ⟨j, q⟩ => [(3, .int .u32 q), (15, .int .i64 (j : Int))]) (fun ⟨j, q⟩ => []) (fun ⟨j, q⟩ => j ≤ c4.length ∧ c4.foldl (fun q c => crcStep q c.toNat) r = (c4.drop j).foldl (fun q c => crcStep q c.toNat) q ∧ 0 ≤ q ∧ q ≤ 4294967295) (fun ⟨j, q⟩ => c4.length - j) ⟨0, r⟩ ⟨rfl, rfl, trivial⟩ trivial ?_ ?_
      · exact ⟨Nat.zero_le _, rfl, by omega, by omega⟩
      · rintro ⟨j, q⟩ hp7
        obtain ⟨hj1, hj2, hj3, hj4⟩ := hp7
        refine go tbv10ok 6 rfl rfl trivial ?_
        refine cnd rfl (fun h8 => ?_) (fun h8 => ?_)
        · have p9 := dt h8
          have := u8r (c4.getD j 0)
          refine go tbv10ok 14 rfl rfl trivial ?_
          refine q1 (sidx tbv10ok j rfl rfl rfl rfl rfl (by omega)) rfl fun w10 => ?_
          refine call (crc_Step _ _) rfl rfl fun w11 => ?_
          have := crcStep_r q ((c4.getD j 0).toNat : Int)
          refine go tbv10ok 8 rfl rfl ⟨(by omega), trivial⟩ ?_
          refine next ⟨(j + 1), (crcStep q (c4.getD j 0).toNat)⟩ rfl rfl ⟨rfl, rfl, trivial⟩ trivial ?_ ?_
          · (try simp only []); omega
          · refine ⟨by omega, ?_, by omega, by omega⟩
            rw [hj2, drop_getD (k := j) (by omega), List.foldl_cons]
        · have p12 := df h8
          refine go tbv10ok 10 rfl rfl ⟨(by omega), trivial⟩ ?_
          refine next ⟨(k + 1), q⟩ rfl rfl ⟨rfl, rfl, trivial⟩ trivial ?_ ?_
          · (try simp only []); omega
          · refine ⟨by omega, ?_, by omega, by omega⟩
            rw [hk2, dropE hc5, List.foldl_cons]
            rw [List.drop_of_length_le (by omega), List.foldl_nil] at hj2
            rw [show crcB r c4 = q from hj2]
    · have p13 := df h2
      refine go tbv10ok 13 rfl rfl trivial ?_
      refine rt1 rfl rfl ?_
      refine ple ?_
      rw [List.drop_of_length_le (by omega), List.foldl_nil] at hk2
      unfold crcSum
      rw [hk2]
theorem frame_Bytes (f : Frame) : Fn Tryz.prog gb 57 [.agg (Frame.pc f)] (.tup [.str (frameBytes f), .int .i64 (frameErr f)]) := by
  refine fn_cw tbv10ok Tryz.func57 rfl Tryz.ntmps57 rfl cb57 rfl rfl fun w N H hG => ?_
  refine go tbv10ok 2 rfl rfl trivial ?_
  refine ef (boxA 0 rfl rfl rfl fun b1 => ?_)
  refine go tbv10ok 13 rfl rfl trivial ?_
  refine cnd rfl (fun h2 => ?_) (fun h2 => ?_)
  · have p3 := dt h2
    refine go tbv10ok 8 rfl rfl trivial ?_
    refine rt2 rfl rfl ?_
    refine ple ?_
    simp [frameBytes, frameErr, frameOut, *]
  · have p4 := df h2
    refine go tbv10ok 3 rfl rfl trivial ?_
    refine any [1, 2, 3, 4, 5, 6] 14 mixd rfl ?_
    refine gov tbv10ok [0, 1, 2, 3] 10 rfl (by kernel_rfl) rfl rfl trivial ?_
    refine vcall 4 rfl (by kernel_rfl) (out_Num (⟨[], 0⟩ : Out) _ _ (by first | omega | (have := hrl (by assumption); omega) | (simp [outNum, outRaw, numB_len, numK] <;> omega) | (have := hrl (by assumption); simp [outNum, outRaw, numB_len, numK] <;> omega))) rfl rfl fun w5 => ?_
    have nl0 : (⟨[], 0⟩ : Out).s.length = 0 := rfl
    have := outNum_len (⟨[], 0⟩ : Out) f.channel 1
    refine gov tbv10ok [5, 6, 7] 6 rfl (by kernel_rfl) rfl rfl trivial ?_
    refine vcall 8 rfl (by kernel_rfl) (out_Num _ _ _ (by first | omega | (have := hrl (by assumption); omega) | (simp [outNum, outRaw, numB_len, numK] <;> omega) | (have := hrl (by assumption); simp [outNum, outRaw, numB_len, numK] <;> omega))) rfl rfl fun w6 => ?_
    have := outNum_len (outNum (⟨[], 0⟩ : Out) f.channel 1) f.kind 1
    refine gov tbv10ok [9, 10] 3 rfl (by kernel_rfl) rfl rfl trivial ?_
    refine vcall 11 rfl (by kernel_rfl) (out_Text _ _ (by first | omega | (have := hrl (by assumption); omega) | (simp [outNum, outRaw, numB_len, numK] <;> omega) | (have := hrl (by assumption); simp [outNum, outRaw, numB_len, numK] <;> omega))) rfl rfl fun w7 => ?_
    have := outText_len (outNum (outNum (⟨[], 0⟩ : Out) f.channel 1) f.kind 1) f.body
    refine ve 12 rfl (by kernel_rfl) rfl (alloc tbv10ok 1 rfl rfl rfl rfl fun b8 => ?_)
    refine vt 13 rfl (by kernel_rfl) (by kernel_rfl) (storeA tbv10ok rfl rfl rfl rfl rfl rfl rfl rfl rfl rfl ?_)
    refine vdone (by kernel_rfl) ?_
    refine go tbv10ok 2 rfl rfl trivial ?_
    refine any [2, 3, 4, 5, 6, 7] 11 mixd rfl ?_
    refine gov tbv10ok [0, 1] 9 rfl (by kernel_rfl) rfl rfl trivial ?_
    refine vcall 2 rfl (by kernel_rfl) (out_String _) rfl rfl fun w9 => ?_
    refine ve 3 rfl (by kernel_rfl) rfl (bsl 2 strc [(outText (outNum (outNum (⟨[], 0⟩ : Out) f.channel 1) f.kind 1) f.body).s] tbv10ok rfl rfl rfl rfl rfl (fun _ => rfl) rfl (by decide) (by decide) rfl fun u10 => ?_)
    refine ve 4 rfl (by kernel_rfl) rfl (calll 2 rfl (crc_Sum _) rfl rfl rfl fun w11 => ?_)
    have := crcSum_r [(outText (outNum (outNum (⟨[], 0⟩ : Out) f.channel 1) f.kind 1) f.body).s]
    refine gov tbv10ok [5] 5 rfl (by kernel_rfl) rfl rfl trivial ?_
    refine vcall 6 rfl (by kernel_rfl) (out_Num _ _ _ (by first | omega | (have := hrl (by assumption); omega) | (simp [outNum, outRaw, numB_len, numK] <;> omega) | (have := hrl (by assumption); simp [outNum, outRaw, numB_len, numK] <;> omega))) rfl rfl fun w12 => ?_
    have := outNum_len (outText (outNum (outNum (⟨[], 0⟩ : Out) f.channel 1) f.kind 1) f.body) (crcSum [(outText (outNum (outNum (⟨[], 0⟩ : Out) f.channel 1) f.kind 1) f.body).s]) 4
    refine vcall 7 rfl (by kernel_rfl) (out_Num _ _ _ (by first | omega | (have := hrl (by assumption); omega) | (simp [outNum, outRaw, numB_len, numK] <;> omega) | (have := hrl (by assumption); simp [outNum, outRaw, numB_len, numK] <;> omega))) rfl rfl fun w13 => ?_
    have := outNum_len (outNum (outText (outNum (outNum (⟨[], 0⟩ : Out) f.channel 1) f.kind 1) f.body) (crcSum [(outText (outNum (outNum (⟨[], 0⟩ : Out) f.channel 1) f.kind 1) f.body).s]) 4) 206 1
    refine vcall 8 rfl (by kernel_rfl) (out_String _) rfl rfl fun w14 => ?_
    refine gov tbv10ok [9, 10] 0 rfl (by kernel_rfl) rfl rfl trivial ?_
    refine vdone (by kernel_rfl) ?_
    refine go tbv10ok 2 rfl rfl trivial ?_
    refine rt2 rfl rfl ?_
    refine ple ?_
    simp [frameBytes, frameErr, frameOut, *]
theorem frame_Parse (s : Bs) (hs : s.length ≤ 4611686018427387904) : Fn Tryz.prog gb 62 [.str s] (.tup [.agg (Frame.pc ((parseF s).1)), .int .i64 ((parseF s).2.1), .int .i64 ((parseF s).2.2)]) := by
  refine fn_cw tbv10ok Tryz.func62 rfl Tryz.ntmps62 rfl cb62 rfl rfl fun w N H hG => ?_
  have s_l : s.length ≤ 9223372036854775807 := w.1
  refine go tbv10ok 2 rfl rfl trivial ?_
  refine ef (alloc tbv10ok 0 rfl rfl rfl rfl fun b1 => ?_)
  refine go tbv10ok 7 rfl rfl trivial ?_
  refine ef (ecallb 1 (octet_New _) rfl rfl fun w2 b3 => ?_)
  refine go tbv10ok 6 rfl rfl trivial ?_
  refine ef (ecallm (in_Num (⟨s, 0⟩) _) rfl rfl rfl rfl rfl fun w4 w4p => ?_)
  have := inNum_r (⟨s, 0⟩) 1
  refine q1 (qconv tbv10ok rfl rfl rfl rfl (rg_u8 (by omega))) rfl fun w5 => ?_
  refine go tbv10ok 1 rfl rfl trivial ?_
  refine ef (ecallm (in_Num _ _) rfl rfl rfl rfl rfl fun w6 w6p => ?_)
  have := inNum_r (((inNum (⟨s, 0⟩) 1)).2) 1
  refine q1 (qconv tbv10ok rfl rfl rfl rfl (rg_u8 (by omega))) rfl fun w7 => ?_
  refine go tbv10ok 1 rfl rfl trivial ?_
  refine ef (alloc tbv10ok 2 rfl rfl rfl rfl fun b8 => ?_)
  refine ef (storeA tbv10ok rfl rfl rfl rfl rfl rfl rfl rfl rfl rfl ?_)
  refine go tbv10ok 5 rfl rfl trivial ?_
  refine ef (ecallm (in_Text _ _) rfl rfl rfl rfl rfl fun w9 w9p => ?_)
  have := inText_len (((inNum (((inNum (⟨s, 0⟩) 1)).2) 1)).2) 2048
  refine go tbv10ok 1 rfl rfl trivial ?_
  refine ef (store1 tbv10ok rfl rfl rfl rfl rfl rfl rfl rfl rfl ?_)
  refine go tbv10ok 5 rfl rfl trivial ?_
  refine ef (ecallm (in_Num _ _) rfl rfl rfl rfl rfl fun w10 w10p => ?_)
  have := inNum_r (((inText (((inNum (((inNum (⟨s, 0⟩) 1)).2) 1)).2) 2048)).2) 4
  refine go tbv10ok 1 rfl rfl trivial ?_
  refine ef (ecallm (in_Num _ _) rfl rfl rfl rfl rfl fun w11 w11p => ?_)
  have := inNum_r (((inNum (((inText (((inNum (((inNum (⟨s, 0⟩) 1)).2) 1)).2) 2048)).2) 4)).2) 1
  refine go tbv10ok 8 rfl rfl trivial ?_
  refine ef (ecallm (in_Err _) rfl rfl rfl rfl rfl fun w12 w12p => ?_)
  refine go tbv10ok 9 rfl rfl trivial ?_
  refine cnd rfl (fun h13 => ?_) (fun h13 => ?_)
  · have h14 := not_t h13
    have p15 := df h14
    refine go tbv10ok 4 rfl rfl trivial ?_
    refine ef (storeA tbv10ok rfl rfl rfl rfl rfl rfl rfl rfl rfl rfl ?_)
    refine go tbv10ok 6 rfl rfl trivial ?_
    refine rt3 rfl rfl ?_
    refine ple ?_
    first | (simp [parseF, Frame.pc, Frame.zero, *]; done) | (simp [parseF, Frame.pc, Frame.zero, *]; omega)
  · have h16 := not_f h13
    have p17 := dt h16
    refine go tbv10ok 20 rfl rfl ⟨(by omega), trivial⟩ ?_
    refine cnd rfl (fun h18 => ?_) (fun h18 => ?_)
    · have h19 := not_t h18
      have p20 := df h19
      refine go tbv10ok 3 rfl rfl trivial ?_
      refine ef (storeA tbv10ok rfl rfl rfl rfl rfl rfl rfl rfl rfl rfl ?_)
      refine go tbv10ok 7 rfl rfl trivial ?_
      refine rt3 rfl rfl ?_
      refine ple ?_
      first | (simp [parseF, Frame.pc, Frame.zero, *]; done) | (simp [parseF, Frame.pc, Frame.zero, *]; omega)
    · have h21 := not_f h18
      have p22 := dt h21
      refine go tbv10ok 4 rfl rfl trivial ?_
      refine q1 (sshi tbv10ok (4 + ((((inText (((inNum (((inNum (⟨s, 0⟩) 1)).2) 1)).2) 2048)).1).length)) rfl rfl rfl rfl (by omega) (by first | omega | (have := parse_len (s := s) (by assumption); omega))) rfl fun w23 => ?_
      refine ef (bsl 3 strc [(s.take (4 + ((((inText (((inNum (((inNum (⟨s, 0⟩) 1)).2) 1)).2) 2048)).1).length)))] tbv10ok rfl rfl rfl rfl rfl (fun _ => rfl) rfl (by decide) (by decide) rfl fun u24 => ?_)
      refine ef (calll 3 rfl (crc_Sum _) rfl rfl rfl fun w25 => ?_)
      have := crcSum_r [(s.take (4 + ((((inText (((inNum (((inNum (⟨s, 0⟩) 1)).2) 1)).2) 2048)).1).length)))]
      refine go tbv10ok 6 rfl rfl trivial ?_
      refine cnd rfl (fun h26 => ?_) (fun h26 => ?_)
      · have h27 := not_t h26
        have p28 := df h27
        refine go tbv10ok 3 rfl rfl trivial ?_
        refine ef (storeA tbv10ok rfl rfl rfl rfl rfl rfl rfl rfl rfl rfl ?_)
        refine go tbv10ok 7 rfl rfl trivial ?_
        refine rt3 rfl rfl ?_
        refine ple ?_
        first | (simp [parseF, Frame.pc, Frame.zero, *]; done) | (simp [parseF, Frame.pc, Frame.zero, *]; omega)
      · have h29 := not_f h26
        have p30 := dt h29
        refine go tbv10ok 8 rfl rfl ⟨(by omega), trivial⟩ ?_
        refine ef (storeA tbv10ok rfl rfl rfl rfl rfl rfl rfl rfl rfl rfl ?_)
        refine go tbv10ok 5 rfl rfl trivial ?_
        refine rt3 rfl rfl ?_
        refine ple ?_
        first | (simp [parseF, Frame.pc, Frame.zero, *]; done) | (simp [parseF, Frame.pc, Frame.zero, *]; omega)
end Go.SW.V
set_option linter.unusedVariables false
set_option maxRecDepth 100000
set_option maxHeartbeats 4000000
namespace Go.SW.V
open Go.SW Go.Proofs
theorem cb137 : Callable Tryz.prog 137 := callable_of Tryz.func137 (by kernel_rfl) (by kernel_rfl)
theorem cb139 : Callable Tryz.prog 139 := callable_of Tryz.func139 (by kernel_rfl) (by kernel_rfl)
theorem cb185 : Callable Tryz.prog 185 := callable_of Tryz.func185 (by kernel_rfl) (by kernel_rfl)
theorem cb49 : Callable Tryz.prog 49 := callable_of Tryz.func49 (by kernel_rfl) (by kernel_rfl)
theorem cb66 : Callable Tryz.prog 66 := callable_of Tryz.func66 (by kernel_rfl) (by kernel_rfl)
def tbv11 : Tb := [(4, ⟨.bool, 1, 1, [.bool false]⟩),
  (5, ⟨.int .u8, 1, 1, [.int .u8 0]⟩),
  (9, ⟨.str, 1, 16, [.str []]⟩),
  (25, ⟨.int .u64, 1, 8, [.int .u64 0]⟩),
  (26, ⟨.slc 224, 1, 24, [.sl Pair.pc []]⟩),
  (28, ⟨.agg [(0, 1), (1, 1), (2, 1), (3, 1), (4, 1), (5, 1), (6, 1)], 7, 96, [.int .u64 0, .str [], .str [], .sl Pair.pc [], .str [], .int .u64 0, .int .u8 0]⟩),
  (30, ⟨.agg [(0, 1), (1, 1), (2, 1), (3, 1), (4, 1), (5, 1), (6, 7)], 13, 144, [.int .u8 0, .int .u8 0, .int .u64 0, .int .u64 0, .bool false, .str [], .int .u64 0, .str [], .str [], .sl Pair.pc [], .str [], .int .u64 0, .int .u8 0]⟩),
  (50, ⟨.agg [(0, 1), (1, 1), (2, 1)], 3, 24, [.int .u8 0, .int .u8 0, .str []]⟩),
  (219, ⟨.agg [(0, 1), (1, 1)], 2, 24, [.str [], .int .i64 0]⟩)]
theorem tbv11ok : tbB Tryz.prog tbv11 = true := by kernel_rfl
theorem reply_blank (m : Mail) : Fn Tryz.prog gb 185 [.agg (Mail.pc m)] (.bool (blankM m)) := by
  refine fn_cw tbv11ok Tryz.func185 rfl Tryz.ntmps185 rfl cb185 rfl rfl fun w N H hG => ?_
  have m_head_l : m.head.length ≤ 140737488355328 := w.1.2.2.2.1.1
  refine go tbv11ok 2 rfl rfl trivial ?_
  refine ef (boxA 0 rfl rfl rfl fun b1 => ?_)
  refine go tbv11ok 28 rfl rfl ⟨(fun hc => hc), (fun hc => hc), rfl, rfl, (fun hc => hc), (fun hc => hc), (fun hc => hc), rfl, rfl, (fun hc => hc), (fun hc => hc), rfl, rfl, trivial⟩ ?_
  refine rt1 rfl rfl ?_
  refine ple ?_
  refine congrArg PV.bool ?_
  first | (simp [blankM, *]; done) | (rw [Bool.eq_iff_iff]; simp [blankM, *]; done) | (rw [Bool.eq_iff_iff]; simp [blankM]; grind)
theorem reply_spare (r : Reply) : Fn Tryz.prog gb 137 [.agg (Reply.pc r)] (.bool (spareR r)) := by
  refine fn_cw tbv11ok Tryz.func137 rfl Tryz.ntmps137 rfl cb137 rfl rfl fun w N H hG => ?_
  have r_mail_head_l : r.mail.head.length ≤ 140737488355328 := w.1.2.2.2.2.2.2.2.2.2.1.1
  refine go tbv11ok 2 rfl rfl trivial ?_
  refine ef (boxA 0 rfl rfl rfl fun b1 => ?_)
  refine go tbv11ok 24 rfl rfl ⟨(fun hc => hc), (fun hc => hc), (fun hc => hc), rfl, rfl, (fun hc => hc), (fun hc => hc), (fun hc => hc), rfl, rfl, trivial⟩ ?_
  refine cnd rfl (fun h2 => ?_) (fun h2 => ?_)
  · refine go tbv11ok 7 rfl rfl trivial ?_
    refine rt1 rfl rfl ?_
    refine ple ?_
    refine congrArg PV.bool ?_
    first | (simp [spareR, *]; done) | (rw [Bool.eq_iff_iff]; simp [spareR, *]; done) | (rw [Bool.eq_iff_iff]; simp [spareR]; grind)
  · have h3 := orl h2
    have h4 := orl h3
    have h5 := not_f h4
    have p6 := dt h5
    have h7 := orr h3
    have h8 := not_f h7
    have p9 := dt h8
    have h10 := orr h2
    have h11 := not_f h10
    have p12 := dt h11
    refine go tbv11ok 30 rfl rfl ⟨(fun hc => hc), (fun hc => hc), rfl, rfl, (fun hc => hc), (fun hc => hc), (fun hc => hc), (fun hc => hc), (fun hc => hc), trivial⟩ ?_
    refine callg rfl (fun hc => (reply_blank _)) rfl ⟨(fun hc => hc), trivial⟩ rfl rfl fun _ => ?_
    refine go tbv11ok 6 rfl rfl ⟨(fun hc => hc), (fun hc => hc), (fun hc => (by rw [hc]; rfl)), (fun hc => rfl), (fun hc => hc), (fun hc => (by rw [hc]; rfl)), (fun hc => rfl), rfl, rfl, trivial⟩ ?_
    refine cnd rfl (fun h13 => ?_) (fun h13 => ?_)
    · refine go tbv11ok 7 rfl rfl trivial ?_
      refine rt1 rfl rfl ?_
      refine ple ?_
      refine congrArg PV.bool ?_
      first | (simp [spareR, *]; done) | (rw [Bool.eq_iff_iff]; simp [spareR, *]; done) | (rw [Bool.eq_iff_iff]; simp [spareR]; grind)
    · have h14 := orl h13
      have h15 := orr h13
      refine go tbv11ok 17 rfl rfl trivial ?_
      refine cnd rfl (fun h16 => ?_) (fun h16 => ?_)
      · have p17 := dt h16
        refine go tbv11ok 2 rfl rfl trivial ?_
        refine cndT rfl h16 ?_
        refine go tbv11ok 8 rfl rfl trivial ?_
        refine rt1 rfl rfl ?_
        refine ple ?_
        refine congrArg PV.bool ?_
        first | (simp [spareR, *]; done) | (rw [Bool.eq_iff_iff]; simp [spareR, *]; done) | (rw [Bool.eq_iff_iff]; simp [spareR]; grind)
      · have p18 := df h16
        refine go tbv11ok 5 rfl rfl trivial ?_
        refine cnd rfl (fun h19 => ?_) (fun h19 => ?_)
        · have p20 := dt h19
          refine go tbv11ok 8 rfl rfl trivial ?_
          refine rt1 rfl rfl ?_
          refine ple ?_
          refine congrArg PV.bool ?_
          first | (simp [spareR, *]; done) | (rw [Bool.eq_iff_iff]; simp [spareR, *]; done) | (rw [Bool.eq_iff_iff]; simp [spareR]; grind)
        · have p21 := df h19
          refine go tbv11ok 7 rfl rfl trivial ?_
          refine cnd rfl (fun h22 => ?_) (fun h22 => ?_)
          · have p23 := dt h22
            refine go tbv11ok 2 rfl rfl trivial ?_
            refine cndT rfl h22 ?_
            refine go tbv11ok 11 rfl rfl trivial ?_
            refine rt1 rfl rfl ?_
            refine ple ?_
            refine congrArg PV.bool ?_
            first | (simp [spareR, *]; done) | (rw [Bool.eq_iff_iff]; simp [spareR, *]; done) | (rw [Bool.eq_iff_iff]; simp [spareR]; grind)
          · have p24 := df h22
            refine go tbv11ok 6 rfl rfl trivial ?_
            refine cnd rfl (fun h25 => ?_) (fun h25 => ?_)
            · have p26 := dt h25
              refine go tbv11ok 2 rfl rfl trivial ?_
              refine cndT rfl h25 ?_
              refine go tbv11ok 11 rfl rfl trivial ?_
              refine rt1 rfl rfl ?_
              refine ple ?_
              refine congrArg PV.bool ?_
              first | (simp [spareR, *]; done) | (rw [Bool.eq_iff_iff]; simp [spareR, *]; done) | (rw [Bool.eq_iff_iff]; simp [spareR]; grind)
            · have p27 := df h25
              refine go tbv11ok 5 rfl rfl trivial ?_
              refine cnd rfl (fun h28 => ?_) (fun h28 => ?_)
              · have p29 := dt h28
                refine go tbv11ok 11 rfl rfl trivial ?_
                refine rt1 rfl rfl ?_
                refine ple ?_
                refine congrArg PV.bool ?_
                first | (simp [spareR, *]; done) | (rw [Bool.eq_iff_iff]; simp [spareR, *]; done) | (rw [Bool.eq_iff_iff]; simp [spareR]; grind)
              · have p30 := df h28
                refine go tbv11ok 17 rfl rfl ⟨(fun hc => hc), (fun hc => hc), rfl, rfl, trivial⟩ ?_
                refine rt1 rfl rfl ?_
                refine ple ?_
                refine congrArg PV.bool ?_
                first | (simp [spareR, *]; done) | (rw [Bool.eq_iff_iff]; simp [spareR, *]; done) | (rw [Bool.eq_iff_iff]; simp [spareR]; grind)
theorem reply_mail (m : Mail) : Fn Tryz.prog gb 139 [.agg (Mail.pc m)] (.int .i64 (mailE m)) := by
  refine fn_cw tbv11ok Tryz.func139 rfl Tryz.ntmps139 rfl cb139 rfl rfl fun w N H hG => ?_
  have m_head_l : m.head.length ≤ 140737488355328 := w.1.2.2.2.1.1
  refine go tbv11ok 2 rfl rfl trivial ?_
  refine ef (boxA 0 rfl rfl rfl fun b1 => ?_)
  refine go tbv11ok 7 rfl rfl trivial ?_
  refine call (words_Name _) rfl rfl fun w2 => ?_
  refine go tbv11ok 10 rfl rfl trivial ?_
  refine cnd rfl (fun h3 => ?_) (fun h3 => ?_)
  · have p4 := dt h3
    refine go tbv11ok 3 rfl rfl trivial ?_
    refine call (words_Key _) rfl rfl fun w5 => ?_
    refine go tbv11ok 10 rfl rfl trivial ?_
    refine cnd rfl (fun h6 => ?_) (fun h6 => ?_)
    · have p7 := dt h6
      refine go tbv11ok 3 rfl rfl trivial ?_
      refine call (head_Check _) rfl rfl fun w8 => ?_
      refine go tbv11ok 16 rfl rfl ⟨(fun hc => hc), (fun hc => hc), (fun hc => hc), rfl, rfl, trivial⟩ ?_
      refine cnd rfl (fun h9 => ?_) (fun h9 => ?_)
      · have h10 := bl h9
        have p11 := dt h10
        have h12 := br h9
        have p13 := dt h12
        refine go tbv11ok 11 rfl rfl trivial ?_
        refine rt1 rfl rfl ?_
        refine ple ?_
        refine congrArg (PV.int .i64) ?_
        simp only [Bool.or_eq_true, Bool.and_eq_true, Bool.not_eq_true', decide_eq_true_eq, Bool.or_eq_false_iff, Bool.and_eq_false_iff, Bool.not_eq_false', decide_eq_false_iff_not, beq_iff_eq, beq_eq_false_iff_ne] at *
        unfold mailE
        (repeat' split) <;> first | rfl | (exfalso; omega) | (exfalso; simp_all; done) | (exfalso; simp_all; omega) | grind
      · refine go tbv11ok 9 rfl rfl trivial ?_
        refine rt1 rfl rfl ?_
        refine ple ?_
        refine congrArg (PV.int .i64) ?_
        simp only [Bool.or_eq_true, Bool.and_eq_true, Bool.not_eq_true', decide_eq_true_eq, Bool.or_eq_false_iff, Bool.and_eq_false_iff, Bool.not_eq_false', decide_eq_false_iff_not, beq_iff_eq, beq_eq_false_iff_ne] at *
        unfold mailE
        (repeat' split) <;> first | rfl | (exfalso; omega) | (exfalso; simp_all; done) | (exfalso; simp_all; omega) | grind
    · have p14 := df h6
      refine go tbv11ok 15 rfl rfl ⟨(fun hc => hc), (fun hc => hc), (fun hc => hc), rfl, rfl, trivial⟩ ?_
      refine cnd rfl (fun h15 => ?_) (fun h15 => ?_)
      · have h16 := bl h15
        have p17 := dt h16
        have h18 := br h15
        have p19 := dt h18
        refine go tbv11ok 11 rfl rfl trivial ?_
        refine rt1 rfl rfl ?_
        refine ple ?_
        refine congrArg (PV.int .i64) ?_
        simp only [Bool.or_eq_true, Bool.and_eq_true, Bool.not_eq_true', decide_eq_true_eq, Bool.or_eq_false_iff, Bool.and_eq_false_iff, Bool.not_eq_false', decide_eq_false_iff_not, beq_iff_eq, beq_eq_false_iff_ne] at *
        unfold mailE
        (repeat' split) <;> first | rfl | (exfalso; omega) | (exfalso; simp_all; done) | (exfalso; simp_all; omega) | grind
      · refine go tbv11ok 9 rfl rfl trivial ?_
        refine rt1 rfl rfl ?_
        refine ple ?_
        refine congrArg (PV.int .i64) ?_
        simp only [Bool.or_eq_true, Bool.and_eq_true, Bool.not_eq_true', decide_eq_true_eq, Bool.or_eq_false_iff, Bool.and_eq_false_iff, Bool.not_eq_false', decide_eq_false_iff_not, beq_iff_eq, beq_eq_false_iff_ne] at *
        unfold mailE
        (repeat' split) <;> first | rfl | (exfalso; omega) | (exfalso; simp_all; done) | (exfalso; simp_all; omega) | grind
  · have p20 := df h3
    refine go tbv11ok 9 rfl rfl trivial ?_
    refine cndF rfl h3 ?_
    refine go tbv11ok 15 rfl rfl ⟨(fun hc => hc), (fun hc => hc), (fun hc => hc), rfl, rfl, trivial⟩ ?_
    refine cnd rfl (fun h21 => ?_) (fun h21 => ?_)
    · have h22 := bl h21
      have p23 := dt h22
      have h24 := br h21
      have p25 := dt h24
      refine go tbv11ok 11 rfl rfl trivial ?_
      refine rt1 rfl rfl ?_
      refine ple ?_
      refine congrArg (PV.int .i64) ?_
      simp only [Bool.or_eq_true, Bool.and_eq_true, Bool.not_eq_true', decide_eq_true_eq, Bool.or_eq_false_iff, Bool.and_eq_false_iff, Bool.not_eq_false', decide_eq_false_iff_not, beq_iff_eq, beq_eq_false_iff_ne] at *
      unfold mailE
      (repeat' split) <;> first | rfl | (exfalso; omega) | (exfalso; simp_all; done) | (exfalso; simp_all; omega) | grind
    · refine go tbv11ok 9 rfl rfl trivial ?_
      refine rt1 rfl rfl ?_
      refine ple ?_
      refine congrArg (PV.int .i64) ?_
      simp only [Bool.or_eq_true, Bool.and_eq_true, Bool.not_eq_true', decide_eq_true_eq, Bool.or_eq_false_iff, Bool.and_eq_false_iff, Bool.not_eq_false', decide_eq_false_iff_not, beq_iff_eq, beq_eq_false_iff_ne] at *
      unfold mailE
      (repeat' split) <;> first | rfl | (exfalso; omega) | (exfalso; simp_all; done) | (exfalso; simp_all; omega) | grind
theorem reply_Check (r : Reply) : Fn Tryz.prog gb 66 [.agg (Reply.pc r)] (.int .i64 (replyE r)) := by
  refine fn_cw tbv11ok Tryz.func66 rfl Tryz.ntmps66 rfl cb66 rfl rfl fun w N H hG => ?_
  have r_mail_head_l : r.mail.head.length ≤ 140737488355328 := w.1.2.2.2.2.2.2.2.2.2.1.1
  refine go tbv11ok 2 rfl rfl trivial ?_
  refine ef (boxA 0 rfl rfl rfl fun b1 => ?_)
  refine go tbv11ok 13 rfl rfl trivial ?_
  refine cnd rfl (fun h2 => ?_) (fun h2 => ?_)
  · have p3 := dt h2
    refine go tbv11ok 8 rfl rfl trivial ?_
    refine rt1 rfl rfl ?_
    refine ple ?_
    refine congrArg (PV.int .i64) ?_
    simp only [Bool.or_eq_true, Bool.and_eq_true, Bool.not_eq_true', decide_eq_true_eq, Bool.or_eq_false_iff, Bool.and_eq_false_iff, Bool.not_eq_false', decide_eq_false_iff_not, beq_iff_eq, beq_eq_false_iff_ne] at *
    unfold replyE
    (repeat' split) <;> first | rfl | (exfalso; omega) | (exfalso; simp_all; done) | (exfalso; simp_all; omega) | grind
  · have p4 := df h2
    refine go tbv11ok 3 rfl rfl trivial ?_
    refine call (reply_spare _) rfl rfl fun w5 => ?_
    refine go tbv11ok 3 rfl rfl trivial ?_
    refine cnd rfl (fun h6 => ?_) (fun h6 => ?_)
    · refine go tbv11ok 8 rfl rfl trivial ?_
      refine rt1 rfl rfl ?_
      refine ple ?_
      refine congrArg (PV.int .i64) ?_
      simp only [Bool.or_eq_true, Bool.and_eq_true, Bool.not_eq_true', decide_eq_true_eq, Bool.or_eq_false_iff, Bool.and_eq_false_iff, Bool.not_eq_false', decide_eq_false_iff_not, beq_iff_eq, beq_eq_false_iff_ne] at *
      unfold replyE
      (repeat' split) <;> first | rfl | (exfalso; omega) | (exfalso; simp_all; done) | (exfalso; simp_all; omega) | grind
    · refine go tbv11ok 8 rfl rfl trivial ?_
      refine cnd rfl (fun h7 => ?_) (fun h7 => ?_)
      · have p8 := dt h7
        refine go tbv11ok 4 rfl rfl trivial ?_
        refine call (words_Name _) rfl rfl fun w9 => ?_
        refine go tbv11ok 6 rfl rfl trivial ?_
        refine rt1 rfl rfl ?_
        refine ple ?_
        refine congrArg (PV.int .i64) ?_
        simp only [Bool.or_eq_true, Bool.and_eq_true, Bool.not_eq_true', decide_eq_true_eq, Bool.or_eq_false_iff, Bool.and_eq_false_iff, Bool.not_eq_false', decide_eq_false_iff_not, beq_iff_eq, beq_eq_false_iff_ne] at *
        unfold replyE
        (repeat' split) <;> first | rfl | (exfalso; omega) | (exfalso; simp_all; done) | (exfalso; simp_all; omega) | grind
      · have p10 := df h7
        refine go tbv11ok 8 rfl rfl trivial ?_
        refine cnd rfl (fun h11 => ?_) (fun h11 => ?_)
        · have p12 := dt h11
          refine go tbv11ok 4 rfl rfl trivial ?_
          refine call (reply_mail _) rfl rfl fun w13 => ?_
          refine go tbv11ok 6 rfl rfl trivial ?_
          refine rt1 rfl rfl ?_
          refine ple ?_
          refine congrArg (PV.int .i64) ?_
          simp only [Bool.or_eq_true, Bool.and_eq_true, Bool.not_eq_true', decide_eq_true_eq, Bool.or_eq_false_iff, Bool.and_eq_false_iff, Bool.not_eq_false', decide_eq_false_iff_not, beq_iff_eq, beq_eq_false_iff_ne] at *
          unfold replyE
          (repeat' split) <;> first | rfl | (exfalso; omega) | (exfalso; simp_all; done) | (exfalso; simp_all; omega) | grind
        · have p14 := df h11
          refine go tbv11ok 9 rfl rfl trivial ?_
          refine rt1 rfl rfl ?_
          refine ple ?_
          refine congrArg (PV.int .i64) ?_
          simp only [Bool.or_eq_true, Bool.and_eq_true, Bool.not_eq_true', decide_eq_true_eq, Bool.or_eq_false_iff, Bool.and_eq_false_iff, Bool.not_eq_false', decide_eq_false_iff_not, beq_iff_eq, beq_eq_false_iff_ne] at *
          unfold replyE
          (repeat' split) <;> first | rfl | (exfalso; omega) | (exfalso; simp_all; done) | (exfalso; simp_all; omega) | grind
theorem reply_Frame (r : Reply) : Fn Tryz.prog gb 49 [.agg (Reply.pc r)] (.tup [.agg (Frame.pc (replyFrame r)), .int .i64 (replyE r)]) := by
  refine fn_cw tbv11ok Tryz.func49 rfl Tryz.ntmps49 rfl cb49 rfl rfl fun w N H hG => ?_
  have r_w := Reply.pwf w.1
  have r_w' := r_w
  simp only [Reply.wf, Mail.wf] at r_w'
  have r_mail_head_k := Reply.kd9 w.1
  have r_mail_head_k2 : r.mail.head.length ≤ 140737488355328 := w.1.2.2.2.2.2.2.2.2.2.1.1
  refine go tbv11ok 2 rfl rfl trivial ?_
  refine ef (boxA 0 rfl rfl rfl fun b1 => ?_)
  refine ef (alloc tbv11ok 1 rfl rfl rfl rfl fun b2 => ?_)
  refine go tbv11ok 7 rfl rfl trivial ?_
  refine call (reply_Check _) rfl rfl fun w3 => ?_
  have hrl := replyE_len r
  refine go tbv11ok 9 rfl rfl trivial ?_
  refine cnd rfl (fun h4 => ?_) (fun h4 => ?_)
  · have h5 := not_t h4
    have p6 := df h5
    refine go tbv11ok 4 rfl rfl trivial ?_
    refine ef (storeA tbv11ok rfl rfl rfl rfl rfl rfl rfl rfl rfl rfl ?_)
    refine go tbv11ok 5 rfl rfl trivial ?_
    refine rt2 rfl rfl ?_
    refine ple ?_
    simp [replyFrame, replyOut, replyOut1, Frame.pc, Frame.zero, *]
  · have h7 := not_f h4
    have p8 := dt h7
    refine go tbv11ok 4 rfl rfl trivial ?_
    refine ef (alloc tbv11ok 2 rfl rfl rfl rfl fun b9 => ?_)
    refine go tbv11ok 16 rfl rfl trivial ?_
    refine cnd rfl (fun h10 => ?_) (fun h10 => ?_)
    · have p11 := dt h10
      refine go tbv11ok 4 rfl rfl trivial ?_
      refine call (out_Text (⟨[], 0⟩ : Out) _ (by first | omega | (have := hrl (by assumption); omega) | (simp [outNum, outRaw, numB_len, numK] <;> omega) | (have := hrl (by assumption); simp [outNum, outRaw, numB_len, numK] <;> omega))) rfl rfl fun w12 => ?_
      have nl0 : (⟨[], 0⟩ : Out).s.length = 0 := rfl
      have := outText_len (⟨[], 0⟩ : Out) r.name
      refine ef (storeA tbv11ok rfl rfl rfl rfl rfl rfl rfl rfl rfl rfl ?_)
      refine go tbv11ok 11 rfl rfl trivial ?_
      refine cndF rfl (fd (by omega)) ?_
      refine go tbv11ok 3 rfl rfl trivial ?_
      refine any [1, 3, 4, 5, 6, 7, 8] 10 mixd rfl ?_
      have := wr_u8 (64 + r.kind)
      refine gov tbv11ok [0, 1, 2, 3, 4, 5] 4 rfl (by kernel_rfl) rfl rfl trivial ?_
      refine vcall 6 rfl (by kernel_rfl) (out_String _) rfl rfl fun w13 => ?_
      refine gov tbv11ok [7] 2 rfl (by kernel_rfl) rfl rfl trivial ?_
      refine vt 8 rfl (by kernel_rfl) (by kernel_rfl) (storeA tbv11ok rfl rfl rfl rfl rfl rfl rfl rfl rfl rfl ?_)
      refine gov tbv11ok [9] 0 rfl (by kernel_rfl) rfl rfl trivial ?_
      refine vdone (by kernel_rfl) ?_
      refine go tbv11ok 2 rfl rfl trivial ?_
      refine rt2 rfl rfl ?_
      refine ple ?_
      simp [replyFrame, replyOut, replyOut1, Frame.pc, Frame.zero, *]
    · have p14 := df h10
      refine go tbv11ok 7 rfl rfl trivial ?_
      refine cnd rfl (fun h15 => ?_) (fun h15 => ?_)
      · have p16 := dt h15
        refine go tbv11ok 2 rfl rfl trivial ?_
        refine cndT rfl h15 ?_
        refine go tbv11ok 4 rfl rfl trivial ?_
        refine call (out_Num (⟨[], 0⟩ : Out) _ _ (by first | omega | (have := hrl (by assumption); omega) | (simp [outNum, outRaw, numB_len, numK] <;> omega) | (have := hrl (by assumption); simp [outNum, outRaw, numB_len, numK] <;> omega))) rfl rfl fun w17 => ?_
        have nl0 : (⟨[], 0⟩ : Out).s.length = 0 := rfl
        have := outNum_len (⟨[], 0⟩ : Out) r.n 8
        refine ef (storeA tbv11ok rfl rfl rfl rfl rfl rfl rfl rfl rfl rfl ?_)
        refine go tbv11ok 11 rfl rfl trivial ?_
        refine cndF rfl (fd (by omega)) ?_
        refine go tbv11ok 3 rfl rfl trivial ?_
        refine any [1, 3, 4, 5, 6, 7, 8] 10 mixd rfl ?_
        have := wr_u8 (64 + r.kind)
        refine gov tbv11ok [0, 1, 2, 3, 4, 5] 4 rfl (by kernel_rfl) rfl rfl trivial ?_
        refine vcall 6 rfl (by kernel_rfl) (out_String _) rfl rfl fun w18 => ?_
        refine gov tbv11ok [7] 2 rfl (by kernel_rfl) rfl rfl trivial ?_
        refine vt 8 rfl (by kernel_rfl) (by kernel_rfl) (storeA tbv11ok rfl rfl rfl rfl rfl rfl rfl rfl rfl rfl ?_)
        refine gov tbv11ok [9] 0 rfl (by kernel_rfl) rfl rfl trivial ?_
        refine vdone (by kernel_rfl) ?_
        refine go tbv11ok 2 rfl rfl trivial ?_
        refine rt2 rfl rfl ?_
        refine ple ?_
        simp [replyFrame, replyOut, replyOut1, Frame.pc, Frame.zero, *]
      · have p19 := df h15
        refine go tbv11ok 6 rfl rfl trivial ?_
        refine cnd rfl (fun h20 => ?_) (fun h20 => ?_)
        · have p21 := dt h20
          refine go tbv11ok 2 rfl rfl trivial ?_
          refine cndT rfl h20 ?_
          refine go tbv11ok 4 rfl rfl trivial ?_
          refine call (out_Num (⟨[], 0⟩ : Out) _ _ (by first | omega | (have := hrl (by assumption); omega) | (simp [outNum, outRaw, numB_len, numK] <;> omega) | (have := hrl (by assumption); simp [outNum, outRaw, numB_len, numK] <;> omega))) rfl rfl fun w22 => ?_
          have nl0 : (⟨[], 0⟩ : Out).s.length = 0 := rfl
          have := outNum_len (⟨[], 0⟩ : Out) r.n 8
          refine ef (storeA tbv11ok rfl rfl rfl rfl rfl rfl rfl rfl rfl rfl ?_)
          refine go tbv11ok 11 rfl rfl trivial ?_
          refine cndF rfl (fd (by omega)) ?_
          refine go tbv11ok 3 rfl rfl trivial ?_
          refine any [1, 3, 4, 5, 6, 7, 8] 10 mixd rfl ?_
          have := wr_u8 (64 + r.kind)
          refine gov tbv11ok [0, 1, 2, 3, 4, 5] 4 rfl (by kernel_rfl) rfl rfl trivial ?_
          refine vcall 6 rfl (by kernel_rfl) (out_String _) rfl rfl fun w23 => ?_
          refine gov tbv11ok [7] 2 rfl (by kernel_rfl) rfl rfl trivial ?_
          refine vt 8 rfl (by kernel_rfl) (by kernel_rfl) (storeA tbv11ok rfl rfl rfl rfl rfl rfl rfl rfl rfl rfl ?_)
          refine gov tbv11ok [9] 0 rfl (by kernel_rfl) rfl rfl trivial ?_
          refine vdone (by kernel_rfl) ?_
          refine go tbv11ok 2 rfl rfl trivial ?_
          refine rt2 rfl rfl ?_
          refine ple ?_
          simp [replyFrame, replyOut, replyOut1, Frame.pc, Frame.zero, *]
        · have p24 := df h20
          refine go tbv11ok 5 rfl rfl trivial ?_
          refine cnd rfl (fun h25 => ?_) (fun h25 => ?_)
          · have p26 := dt h25
            refine go tbv11ok 4 rfl rfl trivial ?_
            refine call (out_Num (⟨[], 0⟩ : Out) _ _ (by first | omega | (have := hrl (by assumption); omega) | (simp [outNum, outRaw, numB_len, numK] <;> omega) | (have := hrl (by assumption); simp [outNum, outRaw, numB_len, numK] <;> omega))) rfl rfl fun w27 => ?_
            have nl0 : (⟨[], 0⟩ : Out).s.length = 0 := rfl
            have := outNum_len (⟨[], 0⟩ : Out) r.n 8
            refine ef (storeA tbv11ok rfl rfl rfl rfl rfl rfl rfl rfl rfl rfl ?_)
            refine go tbv11ok 11 rfl rfl trivial ?_
            refine cndF rfl (fd (by omega)) ?_
            refine go tbv11ok 3 rfl rfl trivial ?_
            refine any [1, 3, 4, 5, 6, 7, 8] 10 mixd rfl ?_
            have := wr_u8 (64 + r.kind)
            refine gov tbv11ok [0, 1, 2, 3, 4, 5] 4 rfl (by kernel_rfl) rfl rfl trivial ?_
            refine vcall 6 rfl (by kernel_rfl) (out_String _) rfl rfl fun w28 => ?_
            refine gov tbv11ok [7] 2 rfl (by kernel_rfl) rfl rfl trivial ?_
            refine vt 8 rfl (by kernel_rfl) (by kernel_rfl) (storeA tbv11ok rfl rfl rfl rfl rfl rfl rfl rfl rfl rfl ?_)
            refine gov tbv11ok [9] 0 rfl (by kernel_rfl) rfl rfl trivial ?_
            refine vdone (by kernel_rfl) ?_
            refine go tbv11ok 2 rfl rfl trivial ?_
            refine rt2 rfl rfl ?_
            refine ple ?_
            simp [replyFrame, replyOut, replyOut1, Frame.pc, Frame.zero, *]
          · have p29 := df h25
            refine go tbv11ok 7 rfl rfl trivial ?_
            refine cnd rfl (fun h30 => ?_) (fun h30 => ?_)
            · have p31 := dt h30
              refine go tbv11ok 2 rfl rfl trivial ?_
              refine cndT rfl h30 ?_
              refine any [3, 4, 5, 6, 7, 8] 8 mixd rfl ?_
              refine gov tbv11ok [0, 1, 2] 5 rfl (by kernel_rfl) rfl rfl trivial ?_
              refine vcall 3 rfl (by kernel_rfl) (out_Num (⟨[], 0⟩ : Out) _ _ (by first | omega | (have := hrl (by assumption); omega) | (simp [outNum, outRaw, numB_len, numK] <;> omega) | (have := hrl (by assumption); simp [outNum, outRaw, numB_len, numK] <;> omega))) rfl rfl fun w32 => ?_
              have nl0 : (⟨[], 0⟩ : Out).s.length = 0 := rfl
              have := outNum_len (⟨[], 0⟩ : Out) r.n 8
              refine gov tbv11ok [4, 5] 2 rfl (by kernel_rfl) rfl rfl trivial ?_
              refine vcall 6 rfl (by kernel_rfl) (out_Num _ _ _ (by first | omega | (have := hrl (by assumption); omega) | (simp [outNum, outRaw, numB_len, numK] <;> omega) | (have := hrl (by assumption); simp [outNum, outRaw, numB_len, numK] <;> omega))) rfl rfl fun w33 => ?_
              have := outNum_len (outNum (⟨[], 0⟩ : Out) r.n 8) r.m 8
              refine vt 7 rfl (by kernel_rfl) (by kernel_rfl) (storeA tbv11ok rfl rfl rfl rfl rfl rfl rfl rfl rfl rfl ?_)
              refine vdone (by kernel_rfl) ?_
              refine go tbv11ok 10 rfl rfl trivial ?_
              refine cndT rfl h30 ?_
              refine go tbv11ok 12 rfl rfl trivial ?_
              refine cnd rfl (fun h34 => ?_) (fun h34 => ?_)
              · refine go tbv11ok 9 rfl rfl trivial ?_
                refine call (head_Bytes _) rfl rfl fun w35 => ?_
                have := headBytes_len r.mail.head
                refine go tbv11ok 7 rfl rfl trivial ?_
                refine any [3, 4, 5, 6, 7, 8] 18 mixd rfl ?_
                refine gov tbv11ok [0, 1] 16 rfl (by kernel_rfl) rfl rfl trivial ?_
                refine vcall 2 rfl (by kernel_rfl) (out_Num _ _ _ (by first | omega | (have := hrl (by assumption); omega) | (simp [outNum, outRaw, numB_len, numK] <;> omega) | (have := hrl (by assumption); simp [outNum, outRaw, numB_len, numK] <;> omega))) rfl rfl fun w36 => ?_
                have := outNum_len (outNum (outNum (⟨[], 0⟩ : Out) r.n 8) r.m 8) 1 1
                refine gov tbv11ok [3, 4, 5] 12 rfl (by kernel_rfl) rfl rfl trivial ?_
                refine vcall 6 rfl (by kernel_rfl) (out_Text _ _ (by first | omega | (have := hrl (by assumption); omega) | (simp [outNum, outRaw, numB_len, numK] <;> omega) | (have := hrl (by assumption); simp [outNum, outRaw, numB_len, numK] <;> omega))) rfl rfl fun w37 => ?_
                have := outText_len (outNum (outNum (outNum (⟨[], 0⟩ : Out) r.n 8) r.m 8) 1 1) r.mail.shop
                refine gov tbv11ok [7, 8, 9] 8 rfl (by kernel_rfl) rfl rfl trivial ?_
                refine vcall 10 rfl (by kernel_rfl) (out_Text _ _ (by first | omega | (have := hrl (by assumption); omega) | (simp [outNum, outRaw, numB_len, numK] <;> omega) | (have := hrl (by assumption); simp [outNum, outRaw, numB_len, numK] <;> omega))) rfl rfl fun w38 => ?_
                have := outText_len (outText (outNum (outNum (outNum (⟨[], 0⟩ : Out) r.n 8) r.m 8) 1 1) r.mail.shop) r.mail.key
                refine gov tbv11ok [11] 6 rfl (by kernel_rfl) rfl rfl trivial ?_
                refine vcall 12 rfl (by kernel_rfl) (out_Raw _ _ (by first | omega | (have := hrl (by assumption); omega) | (simp [outNum, outRaw, numB_len, numK] <;> omega) | (have := hrl (by assumption); simp [outNum, outRaw, numB_len, numK] <;> omega))) rfl rfl fun w39 => ?_
                have := outRaw_len (outText (outText (outNum (outNum (outNum (⟨[], 0⟩ : Out) r.n 8) r.m 8) 1 1) r.mail.shop) r.mail.key) (headBytes r.mail.head)
                refine gov tbv11ok [13, 14, 15] 2 rfl (by kernel_rfl) rfl rfl trivial ?_
                refine vcall 16 rfl (by kernel_rfl) (out_Text _ _ (by first | omega | (have := hrl (by assumption); omega) | (simp [outNum, outRaw, numB_len, numK] <;> omega) | (have := hrl (by assumption); simp [outNum, outRaw, numB_len, numK] <;> omega))) rfl rfl fun w40 => ?_
                have := outText_len (outRaw (outText (outText (outNum (outNum (outNum (⟨[], 0⟩ : Out) r.n 8) r.m 8) 1 1) r.mail.shop) r.mail.key) (headBytes r.mail.head)) r.mail.body
                refine vt 17 rfl (by kernel_rfl) (by kernel_rfl) (storeA tbv11ok rfl rfl rfl rfl rfl rfl rfl rfl rfl rfl ?_)
                refine vdone (by kernel_rfl) ?_
                refine go tbv11ok 2 rfl rfl trivial ?_
                refine any [1, 3, 4, 5, 6, 7, 8] 10 mixd rfl ?_
                have := wr_u8 (64 + r.kind)
                refine gov tbv11ok [0, 1, 2, 3, 4, 5] 4 rfl (by kernel_rfl) rfl rfl trivial ?_
                refine vcall 6 rfl (by kernel_rfl) (out_String _) rfl rfl fun w41 => ?_
                refine gov tbv11ok [7] 2 rfl (by kernel_rfl) rfl rfl trivial ?_
                refine vt 8 rfl (by kernel_rfl) (by kernel_rfl) (storeA tbv11ok rfl rfl rfl rfl rfl rfl rfl rfl rfl rfl ?_)
                refine gov tbv11ok [9] 0 rfl (by kernel_rfl) rfl rfl trivial ?_
                refine vdone (by kernel_rfl) ?_
                refine go tbv11ok 2 rfl rfl trivial ?_
                refine rt2 rfl rfl ?_
                refine ple ?_
                simp [replyFrame, replyOut, replyOut1, Frame.pc, Frame.zero, *]
              · refine go tbv11ok 7 rfl rfl trivial ?_
                refine call (head_Bytes _) rfl rfl fun w42 => ?_
                have := headBytes_len r.mail.head
                refine go tbv11ok 7 rfl rfl trivial ?_
                refine any [3, 4, 5, 6, 7, 8] 18 mixd rfl ?_
                refine gov tbv11ok [0, 1] 16 rfl (by kernel_rfl) rfl rfl trivial ?_
                refine vcall 2 rfl (by kernel_rfl) (out_Num _ _ _ (by first | omega | (have := hrl (by assumption); omega) | (simp [outNum, outRaw, numB_len, numK] <;> omega) | (have := hrl (by assumption); simp [outNum, outRaw, numB_len, numK] <;> omega))) rfl rfl fun w43 => ?_
                have := outNum_len (outNum (outNum (⟨[], 0⟩ : Out) r.n 8) r.m 8) 0 1
                refine gov tbv11ok [3, 4, 5] 12 rfl (by kernel_rfl) rfl rfl trivial ?_
                refine vcall 6 rfl (by kernel_rfl) (out_Text _ _ (by first | omega | (have := hrl (by assumption); omega) | (simp [outNum, outRaw, numB_len, numK] <;> omega) | (have := hrl (by assumption); simp [outNum, outRaw, numB_len, numK] <;> omega))) rfl rfl fun w44 => ?_
                have := outText_len (outNum (outNum (outNum (⟨[], 0⟩ : Out) r.n 8) r.m 8) 0 1) r.mail.shop
                refine gov tbv11ok [7, 8, 9] 8 rfl (by kernel_rfl) rfl rfl trivial ?_
                refine vcall 10 rfl (by kernel_rfl) (out_Text _ _ (by first | omega | (have := hrl (by assumption); omega) | (simp [outNum, outRaw, numB_len, numK] <;> omega) | (have := hrl (by assumption); simp [outNum, outRaw, numB_len, numK] <;> omega))) rfl rfl fun w45 => ?_
                have := outText_len (outText (outNum (outNum (outNum (⟨[], 0⟩ : Out) r.n 8) r.m 8) 0 1) r.mail.shop) r.mail.key
                refine gov tbv11ok [11] 6 rfl (by kernel_rfl) rfl rfl trivial ?_
                refine vcall 12 rfl (by kernel_rfl) (out_Raw _ _ (by first | omega | (have := hrl (by assumption); omega) | (simp [outNum, outRaw, numB_len, numK] <;> omega) | (have := hrl (by assumption); simp [outNum, outRaw, numB_len, numK] <;> omega))) rfl rfl fun w46 => ?_
                have := outRaw_len (outText (outText (outNum (outNum (outNum (⟨[], 0⟩ : Out) r.n 8) r.m 8) 0 1) r.mail.shop) r.mail.key) (headBytes r.mail.head)
                refine gov tbv11ok [13, 14, 15] 2 rfl (by kernel_rfl) rfl rfl trivial ?_
                refine vcall 16 rfl (by kernel_rfl) (out_Text _ _ (by first | omega | (have := hrl (by assumption); omega) | (simp [outNum, outRaw, numB_len, numK] <;> omega) | (have := hrl (by assumption); simp [outNum, outRaw, numB_len, numK] <;> omega))) rfl rfl fun w47 => ?_
                have := outText_len (outRaw (outText (outText (outNum (outNum (outNum (⟨[], 0⟩ : Out) r.n 8) r.m 8) 0 1) r.mail.shop) r.mail.key) (headBytes r.mail.head)) r.mail.body
                refine vt 17 rfl (by kernel_rfl) (by kernel_rfl) (storeA tbv11ok rfl rfl rfl rfl rfl rfl rfl rfl rfl rfl ?_)
                refine vdone (by kernel_rfl) ?_
                refine go tbv11ok 2 rfl rfl trivial ?_
                refine any [1, 3, 4, 5, 6, 7, 8] 10 mixd rfl ?_
                have := wr_u8 (64 + r.kind)
                refine gov tbv11ok [0, 1, 2, 3, 4, 5] 4 rfl (by kernel_rfl) rfl rfl trivial ?_
                refine vcall 6 rfl (by kernel_rfl) (out_String _) rfl rfl fun w48 => ?_
                refine gov tbv11ok [7] 2 rfl (by kernel_rfl) rfl rfl trivial ?_
                refine vt 8 rfl (by kernel_rfl) (by kernel_rfl) (storeA tbv11ok rfl rfl rfl rfl rfl rfl rfl rfl rfl rfl ?_)
                refine gov tbv11ok [9] 0 rfl (by kernel_rfl) rfl rfl trivial ?_
                refine vdone (by kernel_rfl) ?_
                refine go tbv11ok 2 rfl rfl trivial ?_
                refine rt2 rfl rfl ?_
                refine ple ?_
                simp [replyFrame, replyOut, replyOut1, Frame.pc, Frame.zero, *]
            · have p49 := df h30
              refine go tbv11ok 5 rfl rfl trivial ?_
              refine cnd rfl (fun h50 => ?_) (fun h50 => ?_)
              · have p51 := dt h50
                refine any [3, 4, 5, 6, 7, 8] 8 mixd rfl ?_
                refine gov tbv11ok [0, 1, 2] 5 rfl (by kernel_rfl) rfl rfl trivial ?_
                refine vcall 3 rfl (by kernel_rfl) (out_Num (⟨[], 0⟩ : Out) _ _ (by first | omega | (have := hrl (by assumption); omega) | (simp [outNum, outRaw, numB_len, numK] <;> omega) | (have := hrl (by assumption); simp [outNum, outRaw, numB_len, numK] <;> omega))) rfl rfl fun w52 => ?_
                have nl0 : (⟨[], 0⟩ : Out).s.length = 0 := rfl
                have := outNum_len (⟨[], 0⟩ : Out) r.n 8
                refine gov tbv11ok [4, 5] 2 rfl (by kernel_rfl) rfl rfl trivial ?_
                refine vcall 6 rfl (by kernel_rfl) (out_Num _ _ _ (by first | omega | (have := hrl (by assumption); omega) | (simp [outNum, outRaw, numB_len, numK] <;> omega) | (have := hrl (by assumption); simp [outNum, outRaw, numB_len, numK] <;> omega))) rfl rfl fun w53 => ?_
                have := outNum_len (outNum (⟨[], 0⟩ : Out) r.n 8) r.m 8
                refine vt 7 rfl (by kernel_rfl) (by kernel_rfl) (storeA tbv11ok rfl rfl rfl rfl rfl rfl rfl rfl rfl rfl ?_)
                refine vdone (by kernel_rfl) ?_
                refine go tbv11ok 10 rfl rfl trivial ?_
                refine cndF rfl h30 ?_
                refine go tbv11ok 3 rfl rfl trivial ?_
                refine any [1, 3, 4, 5, 6, 7, 8] 10 mixd rfl ?_
                have := wr_u8 (64 + r.kind)
                refine gov tbv11ok [0, 1, 2, 3, 4, 5] 4 rfl (by kernel_rfl) rfl rfl trivial ?_
                refine vcall 6 rfl (by kernel_rfl) (out_String _) rfl rfl fun w54 => ?_
                refine gov tbv11ok [7] 2 rfl (by kernel_rfl) rfl rfl trivial ?_
                refine vt 8 rfl (by kernel_rfl) (by kernel_rfl) (storeA tbv11ok rfl rfl rfl rfl rfl rfl rfl rfl rfl rfl ?_)
                refine gov tbv11ok [9] 0 rfl (by kernel_rfl) rfl rfl trivial ?_
                refine vdone (by kernel_rfl) ?_
                refine go tbv11ok 2 rfl rfl trivial ?_
                refine rt2 rfl rfl ?_
                refine ple ?_
                simp [replyFrame, replyOut, replyOut1, Frame.pc, Frame.zero, *]
              · have p55 := df h50
                refine go tbv11ok 11 rfl rfl trivial ?_
                refine cndF rfl h30 ?_
                refine go tbv11ok 3 rfl rfl trivial ?_
                refine any [1, 3, 4, 5, 6, 7, 8] 10 mixd rfl ?_
                have := wr_u8 (64 + r.kind)
                refine gov tbv11ok [0, 1, 2, 3, 4, 5] 4 rfl (by kernel_rfl) rfl rfl trivial ?_
                refine vcall 6 rfl (by kernel_rfl) (out_String (⟨[], 0⟩ : Out)) rfl rfl fun w56 => ?_
                refine gov tbv11ok [7] 2 rfl (by kernel_rfl) rfl rfl trivial ?_
                refine vt 8 rfl (by kernel_rfl) (by kernel_rfl) (storeA tbv11ok rfl rfl rfl rfl rfl rfl rfl rfl rfl rfl ?_)
                refine gov tbv11ok [9] 0 rfl (by kernel_rfl) rfl rfl trivial ?_
                refine vdone (by kernel_rfl) ?_
                refine go tbv11ok 2 rfl rfl trivial ?_
                refine rt2 rfl rfl ?_
                refine ple ?_
                simp [replyFrame, replyOut, replyOut1, Frame.pc, Frame.zero, *]
end Go.SW.V
set_option linter.unusedVariables false
set_option maxRecDepth 100000
set_option maxHeartbeats 4000000
namespace Go.SW.V
open Go.SW Go.Proofs
theorem cb15 : Callable Tryz.prog 15 := callable_of Tryz.func15 (by kernel_rfl) (by kernel_rfl)
theorem cb16 : Callable Tryz.prog 16 := callable_of Tryz.func16 (by kernel_rfl) (by kernel_rfl)
theorem cb17 : Callable Tryz.prog 17 := callable_of Tryz.func17 (by kernel_rfl) (by kernel_rfl)
def tbv12 : Tb := [(9, ⟨.str, 1, 16, [.str []]⟩),
  (39, ⟨.int .i64, 1, 8, [.int .i64 0]⟩),
  (41, ⟨.agg [(0, 1), (1, 1)], 2, 24, [.str [], .int .i64 0]⟩),
  (42, ⟨.slc 50, 1, 24, [.sl Frame.pc []]⟩),
  (50, ⟨.agg [(0, 1), (1, 1), (2, 1)], 3, 24, [.int .u8 0, .int .u8 0, .str []]⟩)]
theorem tbv12ok : tbB Tryz.prog tbv12 = true := by kernel_rfl
theorem feed_Take (f : Feed) (chunk : Bs) (hfl : f.rest.length + chunk.length ≤ 4000000000) : Fo Tryz.prog gb 15 [.agg (Feed.pc f), .str chunk] (fun u => .tup [.agg (Feed.pc ((feedTake f chunk).1)), .val u]) 3 50 Frame.pc ((feedTake f chunk).2) := by
  refine fo_cw tbv12ok Tryz.func15 rfl Tryz.ntmps15 rfl cb15 (fun _ => rfl) rfl fun w N H hG => ?_
  have chunk_l : chunk.length ≤ 9223372036854775807 := w.2.1
  refine go tbv12ok 2 rfl rfl trivial ?_
  refine ef (boxA 0 rfl rfl rfl fun b1 => ?_)
  refine ef (alloc tbv12ok 1 rfl rfl rfl rfl fun b2 => ?_)
  refine go tbv12ok 12 rfl rfl trivial ?_
  refine cnd rfl (fun h3 => ?_) (fun h3 => ?_)
  · have h4 := not_t h3
    have p5 := df h4
    refine go tbv12ok 3 rfl rfl trivial ?_
    refine ef (storeA tbv12ok rfl rfl rfl rfl rfl rfl rfl rfl rfl rfl ?_)
    refine go tbv12ok 3 rfl rfl trivial ?_
    refine sw_own (t := 5) (k := 3) (e := 50) 2 Frame.pc rfl rfl ?_
    refine sw_val (t := 5) (i := 2) rfl rfl ?_
    refine go tbv12ok 3 rfl rfl trivial ?_
    refine ro2 (j := 2) rfl rfl rfl ?_ ?_
    · simp [feedTake, *]
    · exact ple (by simp [feedTake, Feed.pc, *])
  · have h6 := not_f h3
    have p7 := dt h6
    refine go tbv12ok 14 rfl rfl ⟨(by first | omega | (simp <;> omega)), trivial⟩ ?_
    refine ef (store1 tbv12ok rfl rfl rfl rfl rfl rfl rfl rfl rfl ?_)
    refine go tbv12ok 7 rfl rfl trivial ?_
    refine sw_own (t := 6) (k := 3) (e := 50) 2 Frame.pc rfl rfl ?_
    refine loop (ι := Nat × (List Frame) × Value × Feed) [0, 1, 2, 4, 5, 10, 11, 12, 14, 15, 16, 17, 18] [1] (fun ⟨k, out, u_out, g⟩ => [(6, .osl 2)]) (fun ⟨k, out, u_out, g⟩ => [(2, .arr u_out 3 50 Frame.pc out), (0, .box b1 41 [.str g.rest, .int .i64 g.err])]) (fun ⟨k, out, u_out, g⟩ => feedTake f chunk = feedGo k g.rest out ∧ g.err = f.err ∧ g.rest.length < k ∧ (g.rest.length : Int) + out.length ≤ f.rest.length + chunk.length) (fun ⟨k, out, u_out, g⟩ => k) ⟨((f.rest ++ chunk).length + 1), [], (.slice none 0 0), (⟨(f.rest ++ chunk), f.err⟩ : Feed)⟩ ⟨rfl, trivial⟩ ⟨rfl, rfl, trivial⟩ ?_ ?_
    · exact ⟨by simp [feedTake, *], rfl, by simp, by simp⟩
    · rintro ⟨k, out, u_out, g⟩ hp8
      obtain ⟨hk1, hk4, hk2, hk3⟩ := hp8
      refine go tbv12ok 5 rfl rfl trivial ?_
      refine call (frame_Parse _ (by first | omega | (simp <;> omega))) rfl rfl fun w9 => ?_
      have hpo := parseF_ok g.rest
      refine go tbv12ok 4 rfl rfl trivial ?_
      refine ef (alloc tbv12ok 3 rfl rfl rfl rfl fun b10 => ?_)
      refine ef (storeA tbv12ok rfl rfl rfl rfl rfl rfl rfl rfl rfl rfl ?_)
      refine go tbv12ok 16 rfl rfl trivial ?_
      refine cnd rfl (fun h11 => ?_) (fun h11 => ?_)
      · have p12 := dt h11
        refine go tbv12ok 4 rfl rfl trivial ?_
        refine ef (bsl 4 Frame.pc [((parseF g.rest).1)] tbv12ok rfl rfl rfl rfl rfl (fun _ => rfl) rfl (by decide) (by decide) rfl fun u13 => ?_)
        refine ef (app tbv12ok [((parseF g.rest).1)] rfl rfl rfl rfl rfl rfl rfl rfl rfl (src_o rfl rfl) (by first | omega | (simp; omega)) rfl fun u14 => ?_)
        refine go tbv12ok 7 rfl rfl trivial ?_
        refine q1 (sslo tbv12ok ((parseF g.rest).2.1).toNat rfl rfl rfl rfl (by omega) (by first | omega | (have := hpo (by assumption); omega))) rfl fun w15 => ?_
        refine go tbv12ok 1 rfl rfl trivial ?_
        refine ef (store1 tbv12ok rfl rfl rfl rfl rfl rfl rfl rfl rfl ?_)
        refine go tbv12ok 3 rfl rfl trivial ?_
        refine next ⟨(k - 1), (out ++ [((parseF g.rest).1)]), (u14), (⟨(g.rest.drop ((parseF g.rest).2.1).toNat), g.err⟩ : Feed)⟩ rfl rfl ⟨rfl, trivial⟩ ⟨rfl, rfl, trivial⟩ ?_ ?_
        · (try simp only []); omega
        · try simp only []
          have hp0 : (parseF g.rest).2.2 = 0 := by assumption
          have hpo := hpo hp0
          refine ⟨?_, hk4, by simp; omega, by simp; omega⟩
          obtain ⟨j, rfl⟩ : ∃ j, k = j + 1 := ⟨k - 1, by omega⟩
          rw [hk1]
          simp only [feedGo, Nat.add_sub_cancel]
          rw [if_pos hp0]
      · have p16 := df h11
        refine go tbv12ok 6 rfl rfl trivial ?_
        refine cnd rfl (fun h17 => ?_) (fun h17 => ?_)
        · have p18 := dt h17
          refine go tbv12ok 10 rfl rfl trivial ?_
          refine ef (storeA tbv12ok rfl rfl rfl rfl rfl rfl rfl rfl rfl rfl ?_)
          refine go tbv12ok 3 rfl rfl trivial ?_
          refine sw_val (t := 5) (i := 2) rfl rfl ?_
          refine go tbv12ok 2 rfl rfl trivial ?_
          refine ro2 (j := 2) rfl rfl rfl ?_ ?_
          · have e : feedTake f chunk = (⟨g.rest, g.err⟩, out) := by
              obtain ⟨j, rfl⟩ : ∃ j, k = j + 1 := ⟨k - 1, by omega⟩
              rw [hk1]
              simp [feedGo, *]
            rw [e]
          · have e : feedTake f chunk = (⟨g.rest, g.err⟩, out) := by
              obtain ⟨j, rfl⟩ : ∃ j, k = j + 1 := ⟨k - 1, by omega⟩
              rw [hk1]
              simp [feedGo, *]
            exact ple (by rw [e]; rfl)
        · have p19 := df h17
          refine go tbv12ok 4 rfl rfl trivial ?_
          refine ef (storeA tbv12ok rfl rfl rfl rfl rfl rfl rfl rfl rfl rfl ?_)
          refine go tbv12ok 12 rfl rfl trivial ?_
          refine ef (storeA tbv12ok rfl rfl rfl rfl rfl rfl rfl rfl rfl rfl ?_)
          refine go tbv12ok 3 rfl rfl trivial ?_
          refine sw_val (t := 5) (i := 2) rfl rfl ?_
          refine go tbv12ok 2 rfl rfl trivial ?_
          refine ro2 (j := 2) rfl rfl rfl ?_ ?_
          · have e : feedTake f chunk = (⟨[], (parseF g.rest).2.2⟩, out) := by
              obtain ⟨j, rfl⟩ : ∃ j, k = j + 1 := ⟨k - 1, by omega⟩
              rw [hk1]
              simp [feedGo, *]
            rw [e]
          · have e : feedTake f chunk = (⟨[], (parseF g.rest).2.2⟩, out) := by
              obtain ⟨j, rfl⟩ : ∃ j, k = j + 1 := ⟨k - 1, by omega⟩
              rw [hk1]
              simp [feedGo, *]
            exact ple (by rw [e]; rfl)
theorem feed_Rest (f : Feed) : Fn Tryz.prog gb 16 [.agg (Feed.pc f)] (.str f.rest) := by
  refine fn_cw tbv12ok Tryz.func16 rfl Tryz.ntmps16 rfl cb16 rfl rfl fun w N H hG => ?_
  refine go tbv12ok 2 rfl rfl trivial ?_
  refine ef (boxA 0 rfl rfl rfl fun b1 => ?_)
  refine go tbv12ok 11 rfl rfl trivial ?_
  refine rt1 rfl rfl ?_
  refine ple ?_
  rfl
theorem feed_Err (f : Feed) : Fn Tryz.prog gb 17 [.agg (Feed.pc f)] (.int .i64 f.err) := by
  refine fn_cw tbv12ok Tryz.func17 rfl Tryz.ntmps17 rfl cb17 rfl rfl fun w N H hG => ?_
  refine go tbv12ok 2 rfl rfl trivial ?_
  refine ef (boxA 0 rfl rfl rfl fun b1 => ?_)
  refine go tbv12ok 11 rfl rfl trivial ?_
  refine rt1 rfl rfl ?_
  refine ple ?_
  rfl
end Go.SW.V
set_option linter.unusedVariables false
set_option maxRecDepth 100000
set_option maxHeartbeats 4000000
namespace Go.SW.V
open Go.SW Go.Proofs
theorem cb19 : Callable Tryz.prog 19 := callable_of Tryz.func19 (by kernel_rfl) (by kernel_rfl)
theorem cb67 : Callable Tryz.prog 67 := callable_of Tryz.func67 (by kernel_rfl) (by kernel_rfl)
def tbv13 : Tb := [(4, ⟨.bool, 1, 1, [.bool false]⟩),
  (5, ⟨.int .u8, 1, 1, [.int .u8 0]⟩),
  (9, ⟨.str, 1, 16, [.str []]⟩),
  (25, ⟨.int .u64, 1, 8, [.int .u64 0]⟩),
  (26, ⟨.slc 224, 1, 24, [.sl Pair.pc []]⟩),
  (28, ⟨.agg [(0, 1), (1, 1), (2, 1), (3, 1), (4, 1), (5, 1), (6, 1)], 7, 96, [.int .u64 0, .str [], .str [], .sl Pair.pc [], .str [], .int .u64 0, .int .u8 0]⟩),
  (30, ⟨.agg [(0, 1), (1, 1), (2, 1), (3, 1), (4, 1), (5, 1), (6, 7)], 13, 144, [.int .u8 0, .int .u8 0, .int .u64 0, .int .u64 0, .bool false, .str [], .int .u64 0, .str [], .str [], .sl Pair.pc [], .str [], .int .u64 0, .int .u8 0]⟩)]
theorem tbv13ok : tbB Tryz.prog tbv13 = true := by kernel_rfl
theorem reply_sameMail (a : Mail) (b : Mail) : Fn Tryz.prog gb 67 [.agg (Mail.pc a), .agg (Mail.pc b)] (.bool (decide (a = b))) := by
  refine fn_cw tbv13ok Tryz.func67 rfl Tryz.ntmps67 rfl cb67 rfl rfl fun w N H hG => ?_
  have a_head_l : a.head.length ≤ 140737488355328 := w.1.2.2.2.1.1
  have b_head_l : b.head.length ≤ 140737488355328 := w.2.1.2.2.2.1.1
  refine go tbv13ok 2 rfl rfl trivial ?_
  refine ef (boxA 0 rfl rfl rfl fun b1 => ?_)
  refine ef (boxA 1 rfl rfl rfl fun b2 => ?_)
  refine go tbv13ok 29 rfl rfl ⟨(fun hc => hc), (fun hc => hc), (fun hc => hc), (fun hc => hc), rfl, rfl, (fun hc => hc), (fun hc => hc), (fun hc => hc), (fun hc => hc), rfl, rfl, (fun hc => hc), (fun hc => hc), trivial⟩ ?_
  refine callg rfl (fun hc => (head_Same _ _)) rfl ⟨(fun hc => hc), (fun hc => hc), trivial⟩ rfl rfl fun _ => ?_
  refine go tbv13ok 26 rfl rfl ⟨rfl, rfl, (fun hc => hc), (fun hc => hc), (fun hc => hc), (fun hc => hc), rfl, rfl, (fun hc => hc), (fun hc => hc), (fun hc => hc), (fun hc => hc), rfl, rfl, (fun hc => hc), (fun hc => hc), (fun hc => hc), (fun hc => hc), rfl, rfl, trivial⟩ ?_
  refine rt1 rfl rfl ?_
  refine ple ?_
  exact congrArg PV.bool (by rw [Bool.eq_iff_iff]; first | (simp [Mail.eq_iff, and_assoc]; done) | (simp [Mail.eq_iff]; grind))
theorem reply_Same (a : Reply) (b : Reply) : Fn Tryz.prog gb 19 [.agg (Reply.pc a), .agg (Reply.pc b)] (.bool (decide (a = b))) := by
  refine fn_cw tbv13ok Tryz.func19 rfl Tryz.ntmps19 rfl cb19 rfl rfl fun w N H hG => ?_
  have a_mail_head_l : a.mail.head.length ≤ 140737488355328 := w.1.2.2.2.2.2.2.2.2.2.1.1
  have b_mail_head_l : b.mail.head.length ≤ 140737488355328 := w.2.1.2.2.2.2.2.2.2.2.2.1.1
  refine go tbv13ok 2 rfl rfl trivial ?_
  refine ef (boxA 0 rfl rfl rfl fun b1 => ?_)
  refine ef (boxA 1 rfl rfl rfl fun b2 => ?_)
  refine go tbv13ok 50 rfl rfl ⟨(fun hc => hc), (fun hc => hc), (fun hc => hc), (fun hc => hc), rfl, rfl, (fun hc => hc), (fun hc => hc), (fun hc => hc), (fun hc => hc), rfl, rfl, (fun hc => hc), (fun hc => hc), (fun hc => hc), (fun hc => hc), rfl, rfl, (fun hc => hc), (fun hc => hc), (fun hc => hc), (fun hc => hc), rfl, rfl, (fun hc => hc), (fun hc => hc), (fun hc => hc), (fun hc => hc), rfl, rfl, (fun hc => hc), (fun hc => hc), trivial⟩ ?_
  refine callg rfl (fun hc => (reply_sameMail _ _)) rfl ⟨(fun hc => hc), (fun hc => hc), trivial⟩ rfl rfl fun _ => ?_
  refine go tbv13ok 5 rfl rfl ⟨rfl, rfl, trivial⟩ ?_
  refine rt1 rfl rfl ?_
  refine ple ?_
  exact congrArg PV.bool (by rw [Bool.eq_iff_iff]; first | (simp [Reply.eq_iff, and_assoc]; done) | (simp [Reply.eq_iff]; grind))
end Go.SW.V
set_option linter.unusedVariables false
set_option maxRecDepth 100000
set_option maxHeartbeats 4000000
namespace Go.SW.V
open Go.SW Go.Proofs
end Go.SW.V
set_option linter.unusedVariables false
set_option maxRecDepth 100000
set_option maxHeartbeats 4000000
namespace Go.SW.V
open Go.SW Go.Proofs
end Go.SW.V
set_option linter.unusedVariables false
set_option maxRecDepth 100000
set_option maxHeartbeats 4000000
namespace Go.SW.V
open Go.SW Go.Proofs
end Go.SW.V
set_option linter.unusedVariables false
set_option maxRecDepth 100000
set_option maxHeartbeats 4000000
namespace Go.SW.V
open Go.SW Go.Proofs
theorem cb123 : Callable Tryz.prog 123 := callable_of Tryz.func123 (by kernel_rfl) (by kernel_rfl)
theorem cb41 : Callable Tryz.prog 41 := callable_of Tryz.func41 (by kernel_rfl) (by kernel_rfl)
theorem cb55 : Callable Tryz.prog 55 := callable_of Tryz.func55 (by kernel_rfl) (by kernel_rfl)
def tbv18 : Tb := [(9, ⟨.str, 1, 16, [.str []]⟩),
  (225, ⟨.slc 9, 1, 24, [.sl strc []]⟩)]
theorem tbv18ok : tbB Tryz.prog tbv18 = true := by kernel_rfl
theorem r4_Name (s : Bs) : Fn Tryz.prog gb 41 [.str s] (.int .i64 (nameE s)) := by
  refine fn_cw tbv18ok Tryz.func41 rfl Tryz.ntmps41 rfl cb41 rfl rfl fun w N H hG => ?_
  have s_l : s.length ≤ 9223372036854775807 := w.1
  refine go tbv18ok 13 rfl rfl trivial ?_
  refine cnd rfl (fun h1 => ?_) (fun h1 => ?_)
  · have p2 := dt h1
    refine go tbv18ok 7 rfl rfl trivial ?_
    refine rt1 rfl rfl ?_
    refine ple ?_
    have : s = [] := List.eq_nil_of_length_eq_zero (by omega)
    subst this
    rfl
  · have p3 := df h1
    refine go tbv18ok 10 rfl rfl trivial ?_
    refine cnd rfl (fun h4 => ?_) (fun h4 => ?_)
    · have p5 := dt h4
      refine go tbv18ok 7 rfl rfl trivial ?_
      refine rt1 rfl rfl ?_
      refine ple ?_
      have hne : ¬ s = [] := fun q => by subst q; simp at *
      unfold nameE
      rw [if_neg hne, if_pos (by omega)]
    · have p6 := df h4
      refine go tbv18ok 9 rfl rfl trivial ?_
      refine loop (ι := Nat) [0, 4, 5, 6, 7, 8, 9] [] (fun k => [(3, .int .i64 (k : Int))]) (fun k => []) (fun k => k ≤ s.length ∧ (s.drop k).all (fun c => letter c.toNat) = plain s) (fun k => s.length - k) 0 ⟨rfl, trivial⟩ trivial ?_ ?_
      · exact ⟨by omega, rfl⟩
      · rintro k hp7
        obtain ⟨hk1, hk2⟩ := hp7
        refine go tbv18ok 9 rfl rfl trivial ?_
        refine cnd rfl (fun h8 => ?_) (fun h8 => ?_)
        · have p9 := dt h8
          have := u8r (s.getD k 0)
          refine go tbv18ok 8 rfl rfl trivial ?_
          refine q1 (sidx tbv18ok k rfl rfl rfl rfl rfl (by omega)) rfl fun w10 => ?_
          refine call (r4_letter _) rfl rfl fun w11 => ?_
          refine go tbv18ok 3 rfl rfl trivial ?_
          refine cnd rfl (fun h12 => ?_) (fun h12 => ?_)
          · have h13 := not_t h12
            refine go tbv18ok 11 rfl rfl trivial ?_
            refine rt1 rfl rfl ?_
            refine ple ?_
            have hne : ¬ s = [] := fun q => by subst q; simp at *
            unfold nameE
            rw [if_neg hne, if_neg (by omega), ← hk2, letter_all (k := k) (by omega)]
            simp only [*, Bool.false_and, Bool.false_eq_true, if_false]
          · have h14 := not_f h12
            refine go tbv18ok 8 rfl rfl ⟨(by omega), trivial⟩ ?_
            refine next (k + 1) rfl rfl ⟨rfl, trivial⟩ trivial ?_ ?_
            · omega
            · refine ⟨by omega, ?_⟩
              rw [← hk2, letter_all (k := k) (by omega)]
              simp only [*, Bool.true_and]
        · have p15 := df h8
          refine go tbv18ok 11 rfl rfl trivial ?_
          refine rt1 rfl rfl ?_
          refine ple ?_
          have hne : ¬ s = [] := fun q => by subst q; simp at *
          unfold nameE
          rw [if_neg hne, if_neg (by omega), ← hk2, List.drop_of_length_le (by omega)]
          rfl
theorem r4_Split (s : Bs) (hs : s.length ≤ 1000000) : Fn Tryz.prog gb 123 [.str s] (.sl strc (wordsOf s)) := by
  refine fn_cw tbv18ok Tryz.func123 rfl Tryz.ntmps123 rfl cb123 rfl rfl fun w N H hG => ?_
  have s_l : s.length ≤ 9223372036854775807 := w.1
  refine go tbv18ok 13 rfl rfl trivial ?_
  refine cnd rfl (fun h1 => ?_) (fun h1 => ?_)
  · have p2 := dt h1
    refine go tbv18ok 7 rfl rfl trivial ?_
    refine rt1 rfl rfl ?_
    refine ple_nilx ?_
    unfold wordsOf; rw [if_pos (List.eq_nil_of_length_eq_zero (by omega))]
  · have p3 := df h1
    refine go tbv18ok 19 rfl rfl trivial ?_
    refine sw_own (t := 3) (k := 1) (e := 9) 0 strc rfl rfl ?_
    refine loop (ι := Nat × Nat × (List Bs) × Value) [0, 2, 6, 7, 8] [] (fun ⟨f, k, out, u_out⟩ => [(3, .osl 0), (4, .int .i64 (f : Int)), (5, .int .i64 (k : Int))]) (fun ⟨f, k, out, u_out⟩ => [(0, .arr u_out 1 9 strc out)]) (fun ⟨f, k, out, u_out⟩ => f ≤ k ∧ k ≤ s.length ∧ dots s = out ++ dots (s.drop f) ∧ noDot s f k ∧ out.length ≤ k) (fun ⟨f, k, out, u_out⟩ => s.length - k) ⟨0, 0, [], (.slice none 0 0)⟩ ⟨rfl, rfl, rfl, trivial⟩ ⟨rfl, trivial⟩ ?_ ?_
    · exact ⟨Nat.le_refl _, Nat.zero_le _, rfl, noDot_nil, Nat.zero_le _⟩
    · rintro ⟨f, k, out, u_out⟩ hp4
      obtain ⟨hk1, hk2, hk3, hk4, hk5⟩ := hp4
      refine go tbv18ok 9 rfl rfl trivial ?_
      refine cnd rfl (fun h5 => ?_) (fun h5 => ?_)
      · have p6 := dt h5
        have := u8r (s.getD k 0)
        refine go tbv18ok 8 rfl rfl trivial ?_
        refine q1 (sidx tbv18ok k rfl rfl rfl rfl rfl (by omega)) rfl fun w7 => ?_
        refine go tbv18ok 3 rfl rfl trivial ?_
        refine cnd rfl (fun h8 => ?_) (fun h8 => ?_)
        · have p9 := dt h8
          refine go tbv18ok 6 rfl rfl trivial ?_
          refine q1 (ssl tbv18ok f k rfl rfl rfl rfl rfl rfl rfl (by omega) (by omega)) rfl fun w10 => ?_
          refine ef (bsl 1 strc [((s.drop f).take (k - f))] tbv18ok rfl rfl rfl rfl rfl (fun _ => rfl) rfl (by decide) (by decide) rfl fun u11 => ?_)
          refine ef (app tbv18ok [((s.drop f).take (k - f))] rfl rfl rfl rfl rfl rfl rfl rfl rfl (src_o rfl rfl) (by first | omega | (simp; omega)) rfl fun u12 => ?_)
          refine go tbv18ok 15 rfl rfl ⟨(by omega), (by omega), trivial⟩ ?_
          refine next ⟨(k + 1), (k + 1), (out ++ [((s.drop f).take (k - f))]), (u12)⟩ rfl rfl ⟨rfl, rfl, rfl, trivial⟩ ⟨rfl, trivial⟩ ?_ ?_
          · (try simp only []); omega
          · (try simp only [])
            refine ⟨by omega, by omega, split_hit hk3 hk4 (by omega) (by omega) (byteEq (n := 46) (by omega) (by omega)), noDot_nil, by simp; omega⟩
        · have p13 := df h8
          refine go tbv18ok 8 rfl rfl ⟨(by omega), trivial⟩ ?_
          refine next ⟨f, (k + 1), out, (u_out)⟩ rfl rfl ⟨rfl, rfl, rfl, trivial⟩ ⟨rfl, trivial⟩ ?_ ?_
          · (try simp only []); omega
          · exact ⟨by omega, by omega, hk3, noDot_step hk4 (byteNe (n := 46) (by omega) (by omega)), by omega⟩
      · have p14 := df h5
        refine go tbv18ok 10 rfl rfl trivial ?_
        refine q1 (sslo tbv18ok f rfl rfl rfl rfl rfl (by omega)) rfl fun w15 => ?_
        refine ef (bsl 1 strc [(s.drop f)] tbv18ok rfl rfl rfl rfl rfl (fun _ => rfl) rfl (by decide) (by decide) rfl fun u16 => ?_)
        refine ef (app tbv18ok [(s.drop f)] rfl rfl rfl rfl rfl rfl rfl rfl rfl (src_o rfl rfl) (by first | omega | (simp; omega)) rfl fun u17 => ?_)
        refine go tbv18ok 3 rfl rfl trivial ?_
        refine givec 0 rfl ?_
        refine go tbv18ok 1 rfl rfl trivial ?_
        refine rt1 rfl rfl ?_
        refine ple ?_
        have hne : ¬ s = [] := fun q => by subst q; simp at *
        have e : wordsOf s = (out ++ [(s.drop f)]) := by unfold wordsOf; rw [if_neg hne]; exact split_end hk3 hk4 (by omega)
        first | (rw [e]; done) | (rw [e]; rfl)
theorem r4_Key (s : Bs) (pattern : Bool) : Fn Tryz.prog gb 55 [.str s, .bool pattern] (.int .i64 (keyE (besidesOf pattern) s)) := by
  refine fn_cw tbv18ok Tryz.func55 rfl Tryz.ntmps55 rfl cb55 rfl rfl fun w N H hG => ?_
  have s_l : s.length ≤ 9223372036854775807 := w.1
  refine go tbv18ok 13 rfl rfl trivial ?_
  refine cnd rfl (fun h1 => ?_) (fun h1 => ?_)
  · have p2 := dt h1
    refine go tbv18ok 7 rfl rfl trivial ?_
    refine rt1 rfl rfl ?_
    refine ple ?_
    unfold keyE
    rw [if_pos (by omega)]
  · have p3 := df h1
    refine go tbv18ok 6 rfl rfl trivial ?_
    refine call (r4_Split _ (by first | omega | (simp; done) | decide)) rfl rfl fun w4 => ?_
    refine go tbv18ok 5 rfl rfl trivial ?_
    refine loop (ι := Nat) [0, 1, 9, 10, 11, 12, 13, 14] [] (fun k => [(15, .int .i64 (k : Int))]) (fun k => []) (fun k => k ≤ (wordsOf s).length ∧ (wordsOf s).any (isBad (besidesOf pattern)) = ((wordsOf s).drop k).any (isBad (besidesOf pattern))) (fun k => (wordsOf s).length - k) 0 ⟨rfl, trivial⟩ trivial ?_ ?_
    · exact ⟨Nat.zero_le _, by simp⟩
    · rintro k hp5
      obtain ⟨hk1, hk2⟩ := hp5
      have hwl := words_le s
      refine go tbv18ok 6 rfl rfl trivial ?_
      refine cnd rfl (fun h6 => ?_) (fun h6 => ?_)
      · have p7 := dt h6
        obtain ⟨c8, hc9⟩ := getE (xs := wordsOf s) (m := k) (by omega)
        have c8_l : c8.length ≤ 9223372036854775807 := (w4.2 c8 (List.mem_of_getElem? hc9)).1
        refine go tbv18ok 6 rfl rfl trivial ?_
        refine q1 (qidx tbv18ok k rfl rfl rfl hc9 rfl rfl rfl rfl) rfl fun w10 => ?_
        refine go tbv18ok 19 rfl rfl trivial ?_
        refine loop (ι := Nat × Bool) [0, 1, 6, 9, 10, 11, 12, 13, 14, 15, 16, 17, 18, 19, 20, 21] [] (fun ⟨j, b⟩ => [(7, .bool b), (8, .int .i64 (j : Int))]) (fun ⟨j, b⟩ => []) (fun ⟨j, b⟩ => j ≤ c8.length ∧ (decide ((c8.length : Int) = 0) || !plain c8) = (b || !((c8.drop j).all (fun c => letter c.toNat)))) (fun ⟨j, b⟩ => c8.length - j) ⟨0, (decide ((c8.length : Int) = 0))⟩ ⟨rfl, rfl, trivial⟩ trivial ?_ ?_
        · exact ⟨Nat.zero_le _, rfl⟩
        · rintro ⟨j, b⟩ hp11
          obtain ⟨hj1, hj2⟩ := hp11
          refine go tbv18ok 9 rfl rfl trivial ?_
          refine cnd rfl (fun h12 => ?_) (fun h12 => ?_)
          · have p13 := dt h12
            have := u8r (c8.getD j 0)
            refine go tbv18ok 9 rfl rfl trivial ?_
            refine q1g [30, 31] rfl (fun hc => sidx tbv18ok j rfl rfl rfl rfl rfl (by omega)) ⟨(fun hc => hc), (fun hc => hc), trivial⟩ rfl rfl rfl fun _ => ?_
            refine callg rfl (fun hc => (r4_letter _)) rfl ⟨(fun hc => hc), trivial⟩ rfl rfl fun _ => ?_
            refine go tbv18ok 11 rfl rfl ⟨(fun hc => hc), rfl, rfl, (by omega), trivial⟩ ?_
            refine next ⟨(j + 1), (b || (!(letter ((c8.getD j 0).toNat : Int))))⟩ rfl rfl ⟨rfl, rfl, trivial⟩ trivial ?_ ?_
            · (try simp only []); omega
            · refine ⟨by omega, ?_⟩
              rw [hj2, letter_all (k := j) (by omega)]
              simp only [*, Bool.true_or, Bool.false_or, Bool.not_and, Bool.not_true, Bool.not_false, Bool.false_and, Bool.true_and, Bool.or_assoc]
          · have p14 := df h12
            refine go tbv18ok 22 rfl rfl ⟨(fun hc => hc), (fun hc => hc), (fun hc => hc), (fun hc => hc), (fun hc => hc), (fun hc => (by rw [hc]; rfl)), (fun hc => rfl), (fun hc => hc), (fun hc => (by rw [hc]; rfl)), (fun hc => rfl), (fun hc => hc), rfl, rfl, trivial⟩ ?_
            refine cnd rfl (fun h15 => ?_) (fun h15 => ?_)
            · have h16 := bl h15
              have h17 := br h15
              have h18 := not_t h17
              refine go tbv18ok 11 rfl rfl trivial ?_
              refine rt1 rfl rfl ?_
              refine ple ?_
              rw [List.drop_of_length_le (by omega)] at hj2
              have hX := hj2
              simp only [List.all_nil, Bool.not_true, Bool.or_false] at hX
              have hb : isBad (besidesOf pattern) c8 = true := by rw [isBad_doc hX]; first | (simp [*]; done) | (simp_all; done) | (cases pattern <;> simp_all; done) | grind
              unfold keyE
              rw [if_neg (by omega), hk2, dropE hc9, List.any_cons, hb]
              rfl
            · refine go tbv18ok 7 rfl rfl ⟨(by omega), trivial⟩ ?_
              refine next (k + 1) rfl rfl ⟨rfl, trivial⟩ trivial ?_ ?_
              · omega
              · refine ⟨by omega, ?_⟩
                rw [List.drop_of_length_le (by omega)] at hj2
                have hX := hj2
                simp only [List.all_nil, Bool.not_true, Bool.or_false] at hX
                have hb : isBad (besidesOf pattern) c8 = false := by rw [isBad_doc hX]; first | (simp [*]; done) | (simp_all; done) | (cases pattern <;> simp_all; done) | grind
                rw [hk2, dropE hc9, List.any_cons, hb]
                simp
      · have p19 := df h6
        refine go tbv18ok 11 rfl rfl trivial ?_
        refine rt1 rfl rfl ?_
        refine ple ?_
        unfold keyE
        rw [if_neg (by omega), hk2, List.drop_of_length_le (by omega)]
        rfl
end Go.SW.V
set_option linter.unusedVariables false
set_option maxRecDepth 100000
set_option maxHeartbeats 4000000
namespace Go.SW.V
open Go.SW Go.Proofs
theorem cb124 : Callable Tryz.prog 124 := callable_of Tryz.func124 (by kernel_rfl) (by kernel_rfl)
theorem cb53 : Callable Tryz.prog 53 := callable_of Tryz.func53 (by kernel_rfl) (by kernel_rfl)
theorem cb54 : Callable Tryz.prog 54 := callable_of Tryz.func54 (by kernel_rfl) (by kernel_rfl)
theorem cb56 : Callable Tryz.prog 56 := callable_of Tryz.func56 (by kernel_rfl) (by kernel_rfl)
def tbv19 : Tb := [(2, ⟨.int .i64, 1, 8, [.int .i64 0]⟩),
  (5, ⟨.int .u8, 1, 1, [.int .u8 0]⟩),
  (9, ⟨.str, 1, 16, [.str []]⟩),
  (26, ⟨.slc 224, 1, 24, [.sl Pair.pc []]⟩),
  (224, ⟨.agg [(0, 1), (1, 1), (2, 1), (3, 1)], 4, 48, [.str [], .int .u8 0, .int .i64 0, .str []]⟩)]
theorem tbv19ok : tbB Tryz.prog tbv19 = true := by kernel_rfl
theorem r9_Pair (p : Pair) (ahead : List Pair) : Fn Tryz.prog gb 124 [.agg (Pair.pc p), .sl Pair.pc ahead] (.int .i64 (pairErr p ahead)) := by
  refine fn_cw tbv19ok Tryz.func124 rfl Tryz.ntmps124 rfl cb124 rfl rfl fun w N H hG => ?_
  have ahead_l : ahead.length ≤ 140737488355328 := w.2.1.1
  refine go tbv19ok 2 rfl rfl trivial ?_
  refine ef (boxA 0 rfl rfl rfl fun b1 => ?_)
  refine go tbv19ok 7 rfl rfl trivial ?_
  refine call (r4_Name _) rfl rfl fun w2 => ?_
  refine go tbv19ok 10 rfl rfl trivial ?_
  refine cnd rfl (fun h3 => ?_) (fun h3 => ?_)
  · have h4 := not_t h3
    have p5 := df h4
    refine go tbv19ok 8 rfl rfl trivial ?_
    refine rt1 rfl rfl ?_
    refine ple ?_
    refine congrArg (PV.int .i64) ?_
    rw [pairErr_doc]
    simp only [Bool.or_eq_true, Bool.and_eq_true, Bool.not_eq_true', decide_eq_true_eq, Bool.or_eq_false_iff, Bool.and_eq_false_iff, Bool.not_eq_false', decide_eq_false_iff_not, beq_iff_eq, beq_eq_false_iff_ne] at *
    first | (simp [*]; done) | (simp [*]; omega) | ((repeat' split) <;> first | rfl | omega | (exfalso; simp_all; done) | (exfalso; simp_all; omega) | grind)
  · have h6 := not_f h3
    have p7 := dt h6
    refine go tbv19ok 10 rfl rfl trivial ?_
    refine cnd rfl (fun h8 => ?_) (fun h8 => ?_)
    · have p9 := dt h8
      refine go tbv19ok 7 rfl rfl trivial ?_
      refine rt1 rfl rfl ?_
      refine ple ?_
      refine congrArg (PV.int .i64) ?_
      rw [pairErr_doc]
      simp only [Bool.or_eq_true, Bool.and_eq_true, Bool.not_eq_true', decide_eq_true_eq, Bool.or_eq_false_iff, Bool.and_eq_false_iff, Bool.not_eq_false', decide_eq_false_iff_not, beq_iff_eq, beq_eq_false_iff_ne] at *
      first | (simp [*]; done) | (simp [*]; omega) | ((repeat' split) <;> first | rfl | omega | (exfalso; simp_all; done) | (exfalso; simp_all; omega) | grind)
    · have p10 := df h8
      refine go tbv19ok 16 rfl rfl ⟨(fun hc => hc), (fun hc => hc), (fun hc => hc), rfl, rfl, trivial⟩ ?_
      refine cnd rfl (fun h11 => ?_) (fun h11 => ?_)
      · have h12 := bl h11
        have p13 := dt h12
        have h14 := br h11
        have p15 := dt h14
        refine go tbv19ok 7 rfl rfl trivial ?_
        refine rt1 rfl rfl ?_
        refine ple ?_
        refine congrArg (PV.int .i64) ?_
        rw [pairErr_doc]
        simp only [Bool.or_eq_true, Bool.and_eq_true, Bool.not_eq_true', decide_eq_true_eq, Bool.or_eq_false_iff, Bool.and_eq_false_iff, Bool.not_eq_false', decide_eq_false_iff_not, beq_iff_eq, beq_eq_false_iff_ne] at *
        first | (simp [*]; done) | (simp [*]; omega) | ((repeat' split) <;> first | rfl | omega | (exfalso; simp_all; done) | (exfalso; simp_all; omega) | grind)
      · refine go tbv19ok 20 rfl rfl ⟨(fun hc => hc), (fun hc => hc), (fun hc => hc), (fun hc => hc), (fun hc => hc), (fun hc => hc), (fun hc => (by rw [hc]; rfl)), (fun hc => rfl), rfl, rfl, trivial⟩ ?_
        refine cnd rfl (fun h16 => ?_) (fun h16 => ?_)
        · have h17 := bl h16
          have p18 := dt h17
          have h19 := br h16
          refine go tbv19ok 7 rfl rfl trivial ?_
          refine rt1 rfl rfl ?_
          refine ple ?_
          refine congrArg (PV.int .i64) ?_
          rw [pairErr_doc]
          simp only [Bool.or_eq_true, Bool.and_eq_true, Bool.not_eq_true', decide_eq_true_eq, Bool.or_eq_false_iff, Bool.and_eq_false_iff, Bool.not_eq_false', decide_eq_false_iff_not, beq_iff_eq, beq_eq_false_iff_ne] at *
          first | (simp [*]; done) | (simp [*]; omega) | ((repeat' split) <;> first | rfl | omega | (exfalso; simp_all; done) | (exfalso; simp_all; omega) | grind)
        · refine go tbv19ok 25 rfl rfl ⟨(fun hc => hc), (fun hc => hc), rfl, rfl, (fun hc => hc), (fun hc => hc), (fun hc => hc), (fun hc => hc), (fun hc => hc), (fun hc => hc), (fun hc => (by rw [hc]; rfl)), (fun hc => rfl), rfl, rfl, trivial⟩ ?_
          refine cnd rfl (fun h20 => ?_) (fun h20 => ?_)
          · refine go tbv19ok 7 rfl rfl trivial ?_
            refine rt1 rfl rfl ?_
            refine ple ?_
            refine congrArg (PV.int .i64) ?_
            rw [pairErr_doc]
            simp only [Bool.or_eq_true, Bool.and_eq_true, Bool.not_eq_true', decide_eq_true_eq, Bool.or_eq_false_iff, Bool.and_eq_false_iff, Bool.not_eq_false', decide_eq_false_iff_not, beq_iff_eq, beq_eq_false_iff_ne] at *
            first | (simp [*]; done) | (simp [*]; omega) | ((repeat' split) <;> first | rfl | omega | (exfalso; simp_all; done) | (exfalso; simp_all; omega) | grind)
          · have h21 := orl h20
            have h22 := orr h20
            refine go tbv19ok 11 rfl rfl trivial ?_
            refine loop (ι := Nat) [0, 1, 2, 5, 8, 9, 10, 11, 12, 14, 15, 16, 17, 18, 19, 20, 21, 22, 23, 24, 25, 26, 27, 28, 29, 30, 31, 32, 33, 34, 35, 36, 37, 38, 39, 40, 41, 42, 43, 44, 45, 46, 47, 48, 49, 50, 51, 52, 53, 54, 55, 56, 57, 58] [0] (fun k => [(59, .int .i64 (k : Int))]) (fun k => []) (fun k => k ≤ ahead.length ∧ findP ahead p.key = findP (ahead.drop k) p.key) (fun k => ahead.length - k) 0 ⟨rfl, trivial⟩ trivial ?_ ?_
            · exact ⟨Nat.zero_le _, rfl⟩
            · rintro k hp23
              obtain ⟨hk1, hk2⟩ := hp23
              refine go tbv19ok 6 rfl rfl trivial ?_
              refine cnd rfl (fun h24 => ?_) (fun h24 => ?_)
              · have p25 := dt h24
                obtain ⟨c26, hc27⟩ := getE (xs := ahead) (m := k) (by omega)
                have c26_w := Pair.pwf (w.2.1.2 c26 (List.mem_of_getElem? hc27))
                refine go tbv19ok 6 rfl rfl trivial ?_
                refine q1 (qidx tbv19ok k rfl rfl rfl hc27 rfl rfl rfl rfl) rfl fun w28 => ?_
                refine go tbv19ok 1 rfl rfl trivial ?_
                refine ef (alloc tbv19ok 1 rfl rfl rfl rfl fun b29 => ?_)
                refine ef (storeA tbv19ok rfl rfl rfl rfl rfl rfl rfl rfl rfl rfl ?_)
                refine go tbv19ok 11 rfl rfl trivial ?_
                refine cnd rfl (fun h30 => ?_) (fun h30 => ?_)
                · have p31 := dt h30
                  refine go tbv19ok 11 rfl rfl trivial ?_
                  refine rt1 rfl rfl ?_
                  refine ple ?_
                  have e9 := findP_hit hk2 (dropE hc27) (by assumption)
                  clear hk2
                  refine congrArg (PV.int .i64) ?_
                  rw [pairErr_doc]
                  simp only [Bool.or_eq_true, Bool.and_eq_true, Bool.not_eq_true', decide_eq_true_eq, Bool.or_eq_false_iff, Bool.and_eq_false_iff, Bool.not_eq_false', decide_eq_false_iff_not, beq_iff_eq, beq_eq_false_iff_ne] at *
                  first | (simp [*]; done) | (simp [*]; omega) | ((repeat' split) <;> first | rfl | omega | (exfalso; simp_all; done) | (exfalso; simp_all; omega) | grind)
                · have p32 := df h30
                  refine go tbv19ok 7 rfl rfl ⟨(by omega), trivial⟩ ?_
                  refine next (k + 1) rfl rfl ⟨rfl, trivial⟩ trivial ?_ ?_
                  · omega
                  · exact ⟨by omega, findP_miss hk2 (dropE hc27) (by assumption)⟩
              · have p33 := df h24
                refine go tbv19ok 11 rfl rfl trivial ?_
                refine rt1 rfl rfl ?_
                refine ple ?_
                have e9 : findP ahead p.key = none := by rw [hk2, List.drop_of_length_le (by omega)]; rfl
                clear hk2
                refine congrArg (PV.int .i64) ?_
                rw [pairErr_doc]
                simp only [Bool.or_eq_true, Bool.and_eq_true, Bool.not_eq_true', decide_eq_true_eq, Bool.or_eq_false_iff, Bool.and_eq_false_iff, Bool.not_eq_false', decide_eq_false_iff_not, beq_iff_eq, beq_eq_false_iff_ne] at *
                first | (simp [*]; done) | (simp [*]; omega) | ((repeat' split) <;> first | rfl | omega | (exfalso; simp_all; done) | (exfalso; simp_all; omega) | grind)
theorem r9_Check (h : List Pair) : Fn Tryz.prog gb 56 [.sl Pair.pc h] (.int .i64 (headE h)) := by
  refine fn_cw tbv19ok Tryz.func56 rfl Tryz.ntmps56 rfl cb56 rfl rfl fun w N H hG => ?_
  have h_l : h.length ≤ 140737488355328 := w.1.1
  refine go tbv19ok 13 rfl rfl trivial ?_
  refine cnd rfl (fun h1 => ?_) (fun h1 => ?_)
  · have p2 := dt h1
    refine go tbv19ok 7 rfl rfl trivial ?_
    refine rt1 rfl rfl ?_
    refine ple ?_
    simp [headE, *]
  · have p3 := df h1
    refine go tbv19ok 11 rfl rfl trivial ?_
    refine loop (ι := Nat) [0, 6, 7, 8, 9, 10] [] (fun k => [(11, .int .i64 (k : Int))]) (fun k => []) (fun k => k ≤ h.length ∧ headGo [] h = headGo (h.take k) (h.drop k)) (fun k => h.length - k) 0 ⟨rfl, trivial⟩ trivial ?_ ?_
    · exact ⟨Nat.zero_le _, rfl⟩
    · rintro k hp4
      obtain ⟨hk1, hk2⟩ := hp4
      refine go tbv19ok 6 rfl rfl trivial ?_
      refine cnd rfl (fun h5 => ?_) (fun h5 => ?_)
      · have p6 := dt h5
        obtain ⟨c7, hc8⟩ := getE (xs := h) (m := k) (by omega)
        have c7_w := Pair.pwf (w.1.2 c7 (List.mem_of_getElem? hc8))
        refine go tbv19ok 7 rfl rfl trivial ?_
        refine q1 (qidx tbv19ok k rfl rfl rfl hc8 rfl rfl rfl rfl) rfl fun w9 => ?_
        refine go tbv19ok 1 rfl rfl trivial ?_
        refine ef (alloc tbv19ok 0 rfl rfl rfl rfl fun b10 => ?_)
        refine go tbv19ok 1 rfl rfl trivial ?_
        refine ef (storeA tbv19ok rfl rfl rfl rfl rfl rfl rfl rfl rfl rfl ?_)
        refine go tbv19ok 3 rfl rfl trivial ?_
        refine any [1, 2, 3, 4, 5, 6] 6 mixd rfl ?_
        refine gov tbv19ok [0, 1, 2] 3 rfl (by kernel_rfl) rfl rfl trivial ?_
        refine vq 3 (lshi tbv19ok k rfl rfl rfl rfl rfl (fun _ => rfl) rfl (by omega)) rfl (by kernel_rfl) rfl fun w11 => ?_
        refine vcall 4 rfl (by kernel_rfl) (r9_Pair _ _) rfl rfl fun w12 => ?_
        have := pairErr_r c7 (h.take k)
        refine gov tbv19ok [5] 0 rfl (by kernel_rfl) rfl rfl trivial ?_
        refine vdone (by kernel_rfl) ?_
        refine go tbv19ok 7 rfl rfl trivial ?_
        refine cnd rfl (fun h13 => ?_) (fun h13 => ?_)
        · have h14 := not_t h13
          have p15 := df h14
          refine go tbv19ok 12 rfl rfl trivial ?_
          refine rt1 rfl rfl ?_
          refine ple ?_
          unfold headE
          rw [if_neg (by omega), hk2, dropE hc8]
          simp only [headGo]
          rw [if_pos (by omega)]
        · have h16 := not_f h13
          have p17 := dt h16
          refine go tbv19ok 7 rfl rfl ⟨(by omega), trivial⟩ ?_
          refine next (k + 1) rfl rfl ⟨rfl, trivial⟩ trivial ?_ ?_
          · omega
          · refine ⟨by omega, ?_⟩
            rw [hk2, dropE hc8, takeE hc8]
            simp only [headGo]
            rw [if_neg (by omega)]
      · have p18 := df h5
        refine go tbv19ok 11 rfl rfl trivial ?_
        refine rt1 rfl rfl ?_
        refine ple ?_
        unfold headE
        rw [if_neg (by omega), hk2, List.drop_of_length_le (by omega)]
        rfl
theorem r12_tellsN (kind : Int) : Fn Tryz.prog gb 53 [.int .u8 kind] (.bool (decide (kind = 2 ∨ kind = 3 ∨ kind = 5 ∨ kind = 6 ∨ kind = 7))) := by
  refine fn_cw tbv19ok Tryz.func53 rfl Tryz.ntmps53 rfl cb53 rfl rfl fun w N H hG => ?_
  have kind_r : 0 ≤ kind ∧ kind ≤ 255 := w.1
  refine go tbv19ok 29 rfl rfl ⟨(fun hc => hc), rfl, rfl, (fun hc => hc), rfl, rfl, (fun hc => hc), rfl, rfl, (fun hc => hc), rfl, rfl, trivial⟩ ?_
  refine rt1 rfl rfl ?_
  refine ple ?_
  refine congrArg PV.bool ?_
  first | (rw [Bool.eq_iff_iff]; simp only [decide_eq_true_eq, Bool.false_eq_true, false_iff, true_iff]; omega) | (rw [Bool.eq_iff_iff]; simp [or_assoc]; done) | (rw [Bool.eq_iff_iff]; simp; omega) | (rw [Bool.eq_iff_iff]; simp; grind)
theorem r12_tellsM (kind : Int) : Fn Tryz.prog gb 54 [.int .u8 kind] (.bool (decide (kind = 3 ∨ kind = 6))) := by
  refine fn_cw tbv19ok Tryz.func54 rfl Tryz.ntmps54 rfl cb54 rfl rfl fun w N H hG => ?_
  have kind_r : 0 ≤ kind ∧ kind ≤ 255 := w.1
  refine go tbv19ok 17 rfl rfl ⟨(fun hc => hc), rfl, rfl, trivial⟩ ?_
  refine rt1 rfl rfl ?_
  refine ple ?_
  refine congrArg PV.bool ?_
  first | (rw [Bool.eq_iff_iff]; simp only [decide_eq_true_eq, Bool.false_eq_true, false_iff, true_iff]; omega) | (rw [Bool.eq_iff_iff]; simp [or_assoc]; done) | (rw [Bool.eq_iff_iff]; simp; omega) | (rw [Bool.eq_iff_iff]; simp; grind)
end Go.SW.V
set_option linter.unusedVariables false
set_option maxRecDepth 100000
set_option maxHeartbeats 4000000
namespace Go.SW.V
open Go.SW Go.Proofs
theorem cb11 : Callable Tryz.prog 11 := callable_of Tryz.func11 (by kernel_rfl) (by kernel_rfl)
theorem cb52 : Callable Tryz.prog 52 := callable_of Tryz.func52 (by kernel_rfl) (by kernel_rfl)
theorem cb9 : Callable Tryz.prog 9 := callable_of Tryz.func9 (by kernel_rfl) (by kernel_rfl)
def tbv20 : Tb := [(5, ⟨.int .u8, 1, 1, [.int .u8 0]⟩),
  (9, ⟨.str, 1, 16, [.str []]⟩),
  (25, ⟨.int .u64, 1, 8, [.int .u64 0]⟩),
  (26, ⟨.slc 224, 1, 24, [.sl Pair.pc []]⟩),
  (28, ⟨.agg [(0, 1), (1, 1), (2, 1), (3, 1), (4, 1), (5, 1), (6, 1)], 7, 96, [.int .u64 0, .str [], .str [], .sl Pair.pc [], .str [], .int .u64 0, .int .u8 0]⟩),
  (30, ⟨.agg [(0, 1), (1, 1), (2, 1), (3, 1), (4, 1), (5, 1), (6, 7)], 13, 144, [.int .u8 0, .int .u8 0, .int .u64 0, .int .u64 0, .bool false, .str [], .int .u64 0, .str [], .str [], .sl Pair.pc [], .str [], .int .u64 0, .int .u8 0]⟩),
  (33, ⟨.agg [(0, 1), (1, 1), (2, 1), (3, 1), (4, 1), (5, 1), (6, 7)], 13, 144, [.int .u8 0, .int .u8 0, .int .u64 0, .int .u64 0, .bool false, .str [], .int .u64 0, .str [], .str [], .sl Pair.pc [], .str [], .int .u64 0, .int .u8 0]⟩),
  (72, ⟨.agg [(0, 1), (1, 1), (2, 1)], 3, 40, [.str [], .int .u8 0, .str []]⟩),
  (74, ⟨.agg [(0, 1), (1, 1), (2, 1), (3, 1)], 4, 48, [.str [], .int .u64 0, .int .u64 0, .str []]⟩),
  (76, ⟨.agg [(0, 1), (1, 1), (2, 1), (3, 1), (4, 1), (5, 1)], 6, 88, [.str [], .str [], .bool false, .str [], .sl Pair.pc [], .bool false]⟩),
  (78, ⟨.agg [(0, 1), (1, 1), (2, 3), (5, 4), (9, 6), (15, 1), (16, 1), (17, 1), (18, 1), (19, 1), (20, 1), (21, 7), (28, 1)], 29, 344, [.int .u8 0, .int .u64 0, .str [], .int .u8 0, .str [], .str [], .int .u64 0, .int .u64 0, .str [], .str [], .str [], .bool false, .str [], .sl Pair.pc [], .bool false, .str [], .int .u64 0, .int .u8 0, .int .u8 0, .int .u8 0, .int .u64 0, .int .u64 0, .str [], .str [], .sl Pair.pc [], .str [], .int .u64 0, .int .u8 0, .str []]⟩),
  (213, ⟨.agg [(0, 1), (1, 1), (2, 1), (3, 1), (4, 1), (5, 1)], 6, 88, [.str [], .str [], .bool false, .str [], .sl Pair.pc [], .bool false]⟩),
  (215, ⟨.agg [(0, 1), (1, 1), (2, 3), (5, 4), (9, 6), (15, 1), (16, 1), (17, 1), (18, 1), (19, 1), (20, 1), (21, 7), (28, 1)], 29, 344, [.int .u8 0, .int .u64 0, .str [], .int .u8 0, .str [], .str [], .int .u64 0, .int .u64 0, .str [], .str [], .str [], .bool false, .str [], .sl Pair.pc [], .bool false, .str [], .int .u64 0, .int .u8 0, .int .u8 0, .int .u8 0, .int .u64 0, .int .u64 0, .str [], .str [], .sl Pair.pc [], .str [], .int .u64 0, .int .u8 0, .str []]⟩),
  (224, ⟨.agg [(0, 1), (1, 1), (2, 1), (3, 1)], 4, 48, [.str [], .int .u8 0, .int .i64 0, .str []]⟩)]
theorem tbv20ok : tbB Tryz.prog tbv20 = true := by kernel_rfl
theorem l09_Light (h : List Pair) : Fn Tryz.prog gb 52 [.sl Pair.pc h] (.bool (lightH h)) := by
  refine fn_cw tbv20ok Tryz.func52 rfl Tryz.ntmps52 rfl cb52 rfl rfl fun w N H hG => ?_
  have h_l : h.length ≤ 140737488355328 := w.1.1
  refine go tbv20ok 13 rfl rfl trivial ?_
  refine cnd rfl (fun h1 => ?_) (fun h1 => ?_)
  · have p2 := dt h1
    refine go tbv20ok 7 rfl rfl trivial ?_
    refine rt1 rfl rfl ?_
    refine ple ?_
    exact congrArg PV.bool (by simp [lightH]; omega)
  · have p3 := df h1
    refine go tbv20ok 11 rfl rfl trivial ?_
    refine loop (ι := Nat) [0, 5, 6, 7, 8, 9] [] (fun k => [(10, .int .i64 (k : Int))]) (fun k => []) (fun k => k ≤ h.length ∧ h.all lightP = (h.drop k).all lightP) (fun k => h.length - k) 0 ⟨rfl, trivial⟩ trivial ?_ ?_
    · exact ⟨Nat.zero_le _, rfl⟩
    · rintro k hp4
      obtain ⟨hk1, hk2⟩ := hp4
      refine go tbv20ok 6 rfl rfl trivial ?_
      refine cnd rfl (fun h5 => ?_) (fun h5 => ?_)
      · have p6 := dt h5
        obtain ⟨c7, hc8⟩ := getE (xs := h) (m := k) (by omega)
        have c7_w := Pair.pwf (w.1.2 c7 (List.mem_of_getElem? hc8))
        refine go tbv20ok 6 rfl rfl trivial ?_
        refine q1 (qidx tbv20ok k rfl rfl rfl hc8 rfl rfl rfl rfl) rfl fun w9 => ?_
        refine go tbv20ok 1 rfl rfl trivial ?_
        refine ef (alloc tbv20ok 0 rfl rfl rfl rfl fun b10 => ?_)
        refine ef (storeA tbv20ok rfl rfl rfl rfl rfl rfl rfl rfl rfl rfl ?_)
        refine go tbv20ok 16 rfl rfl ⟨(fun hc => hc), (fun hc => hc), (fun hc => hc), rfl, rfl, trivial⟩ ?_
        refine cnd rfl (fun h11 => ?_) (fun h11 => ?_)
        · refine go tbv20ok 11 rfl rfl trivial ?_
          refine rt1 rfl rfl ?_
          refine ple ?_
          exact congrArg PV.bool (by unfold lightH; rw [all_miss hk2 (dropE hc8) (by simp [lightP]; first | omega | grind)]; simp)
        · have h12 := orl h11
          have p13 := df h12
          have h14 := orr h11
          have p15 := df h14
          refine go tbv20ok 7 rfl rfl ⟨(by omega), trivial⟩ ?_
          refine next (k + 1) rfl rfl ⟨rfl, trivial⟩ trivial ?_ ?_
          · omega
          · exact ⟨by omega, all_step hk2 (dropE hc8) (by simp [lightP]; omega)⟩
      · have p16 := df h5
        refine go tbv20ok 11 rfl rfl trivial ?_
        refine rt1 rfl rfl ?_
        refine ple ?_
        exact congrArg PV.bool (by unfold lightH; rw [all_end hk2 (by omega)]; simp; omega)
theorem l12_Light (r : Reply) : Fn Tryz.prog gb 9 [.agg (Reply.pc r)] (.bool (lightR r)) := by
  refine fn_cw tbv20ok Tryz.func9 rfl Tryz.ntmps9 rfl cb9 rfl rfl fun w N H hG => ?_
  have r_w := Reply.pwf w.1
  have r_w' := r_w
  simp only [Reply.wf, Mail.wf] at r_w'
  have r_mail_head_k := Reply.kd9 w.1
  have r_mail_head_k2 : r.mail.head.length ≤ 140737488355328 := w.1.2.2.2.2.2.2.2.2.2.1.1
  refine go tbv20ok 2 rfl rfl trivial ?_
  refine ef (boxA 0 rfl rfl rfl fun b1 => ?_)
  refine go tbv20ok 25 rfl rfl ⟨(fun hc => hc), (fun hc => hc), (fun hc => hc), (fun hc => hc), rfl, rfl, (fun hc => hc), (fun hc => hc), trivial⟩ ?_
  refine callg rfl (fun hc => (l09_Light _)) rfl ⟨(fun hc => hc), trivial⟩ rfl rfl fun _ => ?_
  refine go tbv20ok 12 rfl rfl ⟨rfl, rfl, (fun hc => hc), (fun hc => hc), (fun hc => hc), (fun hc => hc), rfl, rfl, trivial⟩ ?_
  refine rt1 rfl rfl ?_
  refine ple ?_
  refine congrArg PV.bool ?_
  unfold lightR
  first | (simp only [*, Bool.and_true, Bool.true_and, Bool.false_and, Bool.and_false, decide_true, decide_false]; done) | (rw [Bool.eq_iff_iff]; simp [and_assoc]; done) | (rw [Bool.eq_iff_iff]; simp; grind)
theorem l12_To (r : Reply) (hl : r.mail.head.length ≤ 1000000) : Fn Tryz.prog gb 11 [.agg (Reply.pc r)] (.agg (Reply.pc r)) := by
  refine fn_cw tbv20ok Tryz.func11 rfl Tryz.ntmps11 rfl cb11 rfl rfl fun w N H hG => ?_
  have r_mail_head_l : r.mail.head.length ≤ 140737488355328 := w.1.2.2.2.2.2.2.2.2.2.1.1
  refine go tbv20ok 2 rfl rfl trivial ?_
  refine ef (boxA 0 rfl rfl rfl fun b1 => ?_)
  refine ef (alloc tbv20ok 1 rfl rfl rfl rfl fun b2 => ?_)
  refine go tbv20ok 5 rfl rfl trivial ?_
  refine ef (alloc tbv20ok 2 rfl rfl rfl rfl fun b3 => ?_)
  refine ef (storeA tbv20ok rfl rfl rfl rfl rfl rfl rfl rfl rfl rfl ?_)
  refine go tbv20ok 4 rfl rfl trivial ?_
  refine ef (bsl 3 Pair.pc [] tbv20ok rfl rfl rfl rfl rfl (fun _ => rfl) rfl (by decide) (by decide) rfl fun u4 => ?_)
  refine go tbv20ok 3 rfl rfl trivial ?_
  refine ef (app tbv20ok r.mail.head rfl rfl rfl rfl rfl rfl rfl rfl rfl (src_l rfl (fun _ => rfl)) (by first | omega | (simp; omega)) rfl fun u5 => ?_)
  refine go tbv20ok 2 rfl rfl trivial ?_
  refine give 3 rfl ?_
  refine ef (store1 tbv20ok rfl rfl rfl rfl rfl rfl rfl rfl rfl ?_)
  refine go tbv20ok 5 rfl rfl trivial ?_
  refine ef (storeA tbv20ok rfl rfl rfl rfl rfl rfl rfl rfl rfl rfl ?_)
  refine go tbv20ok 3 rfl rfl trivial ?_
  refine rt1 rfl rfl ?_
  refine ple ?_
  rfl
end Go.SW.V
set_option linter.unusedVariables false
set_option maxRecDepth 100000
set_option maxHeartbeats 4000000
namespace Go.SW.V
open Go.SW Go.Proofs
end Go.SW.V
set_option linter.unusedVariables false
set_option maxRecDepth 100000
set_option maxHeartbeats 4000000
namespace Go.SW.V
open Go.SW Go.Proofs
end Go.SW.V
set_option linter.unusedVariables false
set_option maxRecDepth 100000
set_option maxHeartbeats 4000000
namespace Go.SW.V
open Go.SW Go.Proofs
end Go.SW.V
set_option linter.unusedVariables false
set_option maxRecDepth 100000
set_option maxHeartbeats 4000000
namespace Go.SW.V
open Go.SW Go.Proofs
end Go.SW.V
set_option linter.unusedVariables false
set_option maxRecDepth 100000
set_option maxHeartbeats 4000000
namespace Go.SW.V
open Go.SW Go.Proofs
theorem cb122 : Callable Tryz.prog 122 := callable_of Tryz.func122 (by kernel_rfl) (by kernel_rfl)
theorem cb177 : Callable Tryz.prog 177 := callable_of Tryz.func177 (by kernel_rfl) (by kernel_rfl)
theorem cb178 : Callable Tryz.prog 178 := callable_of Tryz.func178 (by kernel_rfl) (by kernel_rfl)
theorem cb218 : Callable Tryz.prog 218 := callable_of Tryz.func218 (by kernel_rfl) (by kernel_rfl)
theorem cb219 : Callable Tryz.prog 219 := callable_of Tryz.func219 (by kernel_rfl) (by kernel_rfl)
theorem cb51 : Callable Tryz.prog 51 := callable_of Tryz.func51 (by kernel_rfl) (by kernel_rfl)
def tbv25 : Tb := [(9, ⟨.str, 1, 16, [.str []]⟩),
  (28, ⟨.agg [(0, 1), (1, 1), (2, 1), (3, 1), (4, 1), (5, 1), (6, 1)], 7, 96, [.int .u64 0, .str [], .str [], .sl Pair.pc [], .str [], .int .u64 0, .int .u8 0]⟩),
  (219, ⟨.agg [(0, 1), (1, 1)], 2, 24, [.str [], .int .i64 0]⟩),
  (350, ⟨.agg [(0, 1), (1, 1), (2, 1), (3, 1)], 4, 56, [.int .u8 0, .str [], .sl Pair.pc [], .bool false]⟩)]
theorem tbv25ok : tbB Tryz.prog tbv25 = true := by kernel_rfl
theorem l01_awake : Fn Tryz.prog gb 218 [] (.bool true) := by
  refine fn_cw tbv25ok Tryz.func218 rfl Tryz.ntmps218 rfl cb218 rfl rfl fun w N H hG => ?_
  refine go tbv25ok 8 rfl rfl trivial ?_
  refine call (out_Num (⟨[], 0⟩ : Out) _ _ (by first | omega | (have := hrl (by assumption); omega) | (simp [outNum, outRaw, numB_len, numK] <;> omega) | (have := hrl (by assumption); simp [outNum, outRaw, numB_len, numK] <;> omega))) rfl rfl fun w1 => ?_
  have nl0 : (⟨[], 0⟩ : Out).s.length = 0 := rfl
  have := outNum_len (⟨[], 0⟩ : Out) 258 2
  refine call (out_String _) rfl rfl fun w2 => ?_
  refine go tbv25ok 1 rfl rfl trivial ?_
  refine so_rt (t := 4) (p' := .bool true) (ple (congrArg PV.bool (show decide (((outNum (⟨[], 0⟩ : Out) 258 2).s) = [1, 2]) = true by decide +kernel))) rfl ?_
  refine go tbv25ok 1 rfl rfl trivial ?_
  refine ungd rfl rfl ?_
  refine go tbv25ok 1 rfl rfl trivial ?_
  refine ungd rfl rfl ?_
  refine call (out_Text (⟨[], 0⟩ : Out) _ (by first | omega | (have := hrl (by assumption); omega) | (simp [outNum, outRaw, numB_len, numK] <;> omega) | (have := hrl (by assumption); simp [outNum, outRaw, numB_len, numK] <;> omega))) rfl rfl fun w3 => ?_
  have nl0 : (⟨[], 0⟩ : Out).s.length = 0 := rfl
  have := outText_len (⟨[], 0⟩ : Out) [97, 98]
  refine ungd rfl rfl ?_
  refine call (out_String _) rfl rfl fun w4 => ?_
  refine ungd rfl rfl ?_
  refine go tbv25ok 1 rfl rfl trivial ?_
  refine so_rt (t := 9) (p' := .bool true) (ple (congrArg PV.bool (show decide (((outText (⟨[], 0⟩ : Out) [97, 98]).s) = [0, 2, 97, 98]) = true by decide +kernel))) rfl ?_
  refine go tbv25ok 2 rfl rfl trivial ?_
  refine ungd rfl rfl ?_
  refine ef (ecallb 0 (octet_New _) rfl rfl fun w5 b6 => ?_)
  refine ungd rfl rfl ?_
  refine ef (ecallm (in_Num (⟨[1, 2], 0⟩) _) rfl rfl rfl rfl rfl fun w7 w7p => ?_)
  have := inNum_r (⟨[1, 2], 0⟩) 2
  refine ungd rfl rfl ?_
  refine go tbv25ok 1 rfl rfl trivial ?_
  refine so_rt (t := 14) (p' := .bool true) (ple (congrArg PV.bool (show decide ((((inNum (⟨[1, 2], 0⟩) 2)).1) = 258) = true by decide +kernel))) rfl ?_
  refine go tbv25ok 5 rfl rfl trivial ?_
  refine rt1 rfl rfl ?_
  refine ple ?_
  exact congrArg PV.bool (by first | rfl | decide +kernel)
theorem l01_Awake : Fn Tryz.prog gb 177 [] (.bool true) := by
  refine fn_cw tbv25ok Tryz.func177 rfl Tryz.ntmps177 rfl cb177 rfl rfl fun w N H hG => ?_
  refine go tbv25ok 7 rfl rfl trivial ?_
  refine call l01_awake rfl rfl fun w1 => ?_
  refine go tbv25ok 4 rfl rfl trivial ?_
  refine rt1 rfl rfl ?_
  refine ple ?_
  rfl
theorem l04_awake : Fn Tryz.prog gb 219 [] (.bool true) := by
  refine fn_cw tbv25ok Tryz.func219 rfl Tryz.ntmps219 rfl cb219 rfl rfl fun w N H hG => ?_
  refine go tbv25ok 7 rfl rfl trivial ?_
  refine call (words_Matches _ _ (by first | omega | (simp; done) | decide) (by first | omega | (simp; done) | decide)) rfl rfl fun w1 => ?_
  refine so_rt (t := 1) (p' := .bool true) (ple (congrArg PV.bool (show mt (wordsOf [97, 46, 42, 46, 35]) (wordsOf [97, 46, 98]) = true by decide +kernel))) rfl ?_
  refine go tbv25ok 1 rfl rfl trivial ?_
  refine ungd rfl rfl ?_
  refine call (words_Matches _ _ (by first | omega | (simp; done) | decide) (by first | omega | (simp; done) | decide)) rfl rfl fun w2 => ?_
  refine so_rt (t := 3) (p' := .bool true) (ple (congrArg PV.bool (show mt (wordsOf [97, 46, 42, 46, 35]) (wordsOf [97, 46, 98, 46, 99, 46, 100]) = true by decide +kernel))) rfl ?_
  refine go tbv25ok 2 rfl rfl trivial ?_
  refine ungd rfl rfl ?_
  refine call (words_Matches _ _ (by first | omega | (simp; done) | decide) (by first | omega | (simp; done) | decide)) rfl rfl fun w3 => ?_
  refine so_rt (t := 6) (p' := .bool false) (ple (congrArg PV.bool (show mt (wordsOf [97, 46, 42, 46, 35]) (wordsOf [97]) = false by decide +kernel))) rfl ?_
  refine ungd rfl rfl ?_
  refine go tbv25ok 1 rfl rfl trivial ?_
  refine so_rt (t := 7) (p' := .bool true) (ple (congrArg PV.bool (show !false = true by decide +kernel))) rfl ?_
  refine go tbv25ok 2 rfl rfl trivial ?_
  refine ungd rfl rfl ?_
  refine call (words_Name _) rfl rfl fun w4 => ?_
  refine ungd rfl rfl ?_
  refine go tbv25ok 1 rfl rfl trivial ?_
  refine so_rt (t := 11) (p' := .bool true) (ple (congrArg PV.bool (show decide ((nameE [97, 45, 49]) = 0) = true by decide +kernel))) rfl ?_
  refine go tbv25ok 5 rfl rfl trivial ?_
  refine rt1 rfl rfl ?_
  refine ple ?_
  exact congrArg PV.bool (by first | rfl | decide +kernel)
theorem l04_Awake : Fn Tryz.prog gb 178 [] (.bool true) := by
  refine fn_cw tbv25ok Tryz.func178 rfl Tryz.ntmps178 rfl cb178 rfl rfl fun w N H hG => ?_
  refine go tbv25ok 7 rfl rfl trivial ?_
  refine call l04_awake rfl rfl fun w1 => ?_
  refine go tbv25ok 4 rfl rfl trivial ?_
  refine rt1 rfl rfl ?_
  refine ple ?_
  rfl
theorem l09_awake : Fn Tryz.prog gb 122 [] (.bool true) := by
  refine fn_cw tbv25ok Tryz.func122 rfl Tryz.ntmps122 rfl cb122 rfl rfl fun w N H hG => ?_
  refine go tbv25ok 7 rfl rfl trivial ?_
  refine call (Fn.le (head_Bytes []) (ples_cons ple_nil ples_nil) (ple rfl) rfl) rfl rfl fun w1 => ?_
  have := headBytes_len []
  refine go tbv25ok 9 rfl rfl trivial ?_
  refine call l01_Awake rfl rfl fun w2 => ?_
  refine go tbv25ok 1 rfl rfl trivial ?_
  refine ungd rfl rfl ?_
  refine call l04_Awake rfl rfl fun w3 => ?_
  refine go tbv25ok 2 rfl rfl trivial ?_
  refine ungd rfl rfl ?_
  refine go tbv25ok 1 rfl rfl trivial ?_
  refine ungd rfl rfl ?_
  refine go tbv25ok 1 rfl rfl trivial ?_
  refine so_rt (t := 13) (p' := .bool true) (ple (congrArg PV.bool (show decide ((headE []) = 0) = true by decide +kernel))) rfl ?_
  refine go tbv25ok 2 rfl rfl trivial ?_
  refine ungd rfl rfl ?_
  refine go tbv25ok 1 rfl rfl trivial ?_
  refine ungd rfl rfl ?_
  refine go tbv25ok 1 rfl rfl trivial ?_
  refine so_rt (t := 17) (p' := .bool true) (ple (congrArg PV.bool (show decide ((headBytes []) = [0]) = true by decide +kernel))) rfl ?_
  refine go tbv25ok 5 rfl rfl trivial ?_
  refine rt1 rfl rfl ?_
  refine ple ?_
  exact congrArg PV.bool (by first | rfl | decide +kernel)
theorem l09_Awake : Fn Tryz.prog gb 51 [] (.bool true) := by
  refine fn_cw tbv25ok Tryz.func51 rfl Tryz.ntmps51 rfl cb51 rfl rfl fun w N H hG => ?_
  refine go tbv25ok 7 rfl rfl trivial ?_
  refine call l09_awake rfl rfl fun w1 => ?_
  refine go tbv25ok 4 rfl rfl trivial ?_
  refine rt1 rfl rfl ?_
  refine ple ?_
  rfl
end Go.SW.V
set_option linter.unusedVariables false
set_option maxRecDepth 100000
set_option maxHeartbeats 4000000
namespace Go.SW.V
open Go.SW Go.Proofs
theorem cb176 : Callable Tryz.prog 176 := callable_of Tryz.func176 (by kernel_rfl) (by kernel_rfl)
theorem cb217 : Callable Tryz.prog 217 := callable_of Tryz.func217 (by kernel_rfl) (by kernel_rfl)
theorem cb245 : Callable Tryz.prog 245 := callable_of Tryz.func245 (by kernel_rfl) (by kernel_rfl)
theorem cb264 : Callable Tryz.prog 264 := callable_of Tryz.func264 (by kernel_rfl) (by kernel_rfl)
def tbv26 : Tb := [(9, ⟨.str, 1, 16, [.str []]⟩),
  (50, ⟨.agg [(0, 1), (1, 1), (2, 1)], 3, 24, [.int .u8 0, .int .u8 0, .str []]⟩),
  (225, ⟨.slc 9, 1, 24, [.sl strc []]⟩)]
theorem tbv26ok : tbB Tryz.prog tbv26 = true := by kernel_rfl
theorem l02_awake : Fn Tryz.prog gb 264 [] (.bool true) := by
  refine fn_cw tbv26ok Tryz.func264 rfl Tryz.ntmps264 rfl cb264 rfl rfl fun w N H hG => ?_
  refine go tbv26ok 7 rfl rfl trivial ?_
  refine ef (bsl 0 strc [[49, 50, 51, 52], [53, 54, 55, 56, 57]] tbv26ok rfl rfl rfl rfl rfl (fun _ => rfl) rfl (by decide) (by decide) rfl fun u1 => ?_)
  refine ef (calll 0 rfl (crc_Sum _) rfl rfl rfl fun w2 => ?_)
  have := crcSum_r [[49, 50, 51, 52], [53, 54, 55, 56, 57]]
  refine go tbv26ok 1 rfl rfl trivial ?_
  refine so_rt (t := 3) (p' := .bool true) (ple (congrArg PV.bool (show decide ((crcSum [[49, 50, 51, 52], [53, 54, 55, 56, 57]]) = 3421780262) = true by decide +kernel))) rfl ?_
  refine go tbv26ok 1 rfl rfl trivial ?_
  refine ungd rfl rfl ?_
  refine call (Fn.le (crc_Sum []) (ples_cons ple_nil ples_nil) (ple rfl) rfl) rfl rfl fun w3 => ?_
  have := crcSum_r []
  refine ungd rfl rfl ?_
  refine go tbv26ok 1 rfl rfl trivial ?_
  refine so_rt (t := 6) (p' := .bool true) (ple (congrArg PV.bool (show decide ((crcSum []) = 0) = true by decide +kernel))) rfl ?_
  refine go tbv26ok 5 rfl rfl trivial ?_
  refine rt1 rfl rfl ?_
  refine ple ?_
  exact congrArg PV.bool (by first | rfl | decide +kernel)
theorem l02_Awake : Fn Tryz.prog gb 245 [] (.bool true) := by
  refine fn_cw tbv26ok Tryz.func245 rfl Tryz.ntmps245 rfl cb245 rfl rfl fun w N H hG => ?_
  refine go tbv26ok 7 rfl rfl trivial ?_
  refine call l02_awake rfl rfl fun w1 => ?_
  refine go tbv26ok 4 rfl rfl trivial ?_
  refine rt1 rfl rfl ?_
  refine ple ?_
  rfl
theorem l07_awake : Fn Tryz.prog gb 217 [] (.bool true) := by
  refine fn_cw tbv26ok Tryz.func217 rfl Tryz.ntmps217 rfl cb217 rfl rfl fun w N H hG => ?_
  refine go tbv26ok 8 rfl rfl trivial ?_
  refine call (frame_Bytes (⟨1, 2, []⟩ : Frame)) rfl rfl fun w1 => ?_
  refine go tbv26ok 9 rfl rfl trivial ?_
  refine call l01_Awake rfl rfl fun w2 => ?_
  refine go tbv26ok 1 rfl rfl trivial ?_
  refine ungd rfl rfl ?_
  refine call l02_Awake rfl rfl fun w3 => ?_
  refine go tbv26ok 2 rfl rfl trivial ?_
  refine ungd rfl rfl ?_
  refine go tbv26ok 1 rfl rfl trivial ?_
  refine ungd rfl rfl ?_
  refine go tbv26ok 1 rfl rfl trivial ?_
  refine so_rt (t := 14) (p' := .bool true) (ple (congrArg PV.bool (show decide ((frameErr (⟨1, 2, []⟩ : Frame)) = 0) = true by decide +kernel))) rfl ?_
  refine go tbv26ok 2 rfl rfl trivial ?_
  refine ungd rfl rfl ?_
  refine go tbv26ok 1 rfl rfl trivial ?_
  refine ungd rfl rfl ?_
  refine go tbv26ok 1 rfl rfl trivial ?_
  refine ungd rfl rfl ?_
  refine go tbv26ok 1 rfl rfl trivial ?_
  refine so_rt (t := 19) (p' := .bool true) (ple (congrArg PV.bool (show decide (((frameBytes (⟨1, 2, []⟩ : Frame)).length : Int) = 9) = true by decide +kernel))) rfl ?_
  refine go tbv26ok 2 rfl rfl trivial ?_
  refine ungd rfl rfl ?_
  refine go tbv26ok 1 rfl rfl trivial ?_
  refine ungd rfl rfl ?_
  have := u8r ((frameBytes (⟨1, 2, []⟩ : Frame)).getD 8 0)
  refine q1 (sidx tbv26ok 8 rfl rfl rfl rfl rfl (by first | omega | decide +kernel)) rfl fun w4 => ?_
  refine ungd rfl rfl ?_
  refine go tbv26ok 1 rfl rfl trivial ?_
  refine so_rt (t := 24) (p' := .bool true) (ple (congrArg PV.bool (show decide ((((frameBytes (⟨1, 2, []⟩ : Frame)).getD 8 0).toNat : Int) = 206) = true by decide +kernel))) rfl ?_
  refine go tbv26ok 5 rfl rfl trivial ?_
  refine rt1 rfl rfl ?_
  refine ple ?_
  exact congrArg PV.bool (by first | rfl | decide +kernel)
theorem l07_Awake : Fn Tryz.prog gb 176 [] (.bool true) := by
  refine fn_cw tbv26ok Tryz.func176 rfl Tryz.ntmps176 rfl cb176 rfl rfl fun w N H hG => ?_
  refine go tbv26ok 7 rfl rfl trivial ?_
  refine call l07_awake rfl rfl fun w1 => ?_
  refine go tbv26ok 4 rfl rfl trivial ?_
  refine rt1 rfl rfl ?_
  refine ple ?_
  rfl
end Go.SW.V
set_option linter.unusedVariables false
set_option maxRecDepth 100000
set_option maxHeartbeats 4000000
namespace Go.SW.V
open Go.SW Go.Proofs
theorem cb127 : Callable Tryz.prog 127 := callable_of Tryz.func127 (by kernel_rfl) (by kernel_rfl)
theorem cb128 : Callable Tryz.prog 128 := callable_of Tryz.func128 (by kernel_rfl) (by kernel_rfl)
theorem cb130 : Callable Tryz.prog 130 := callable_of Tryz.func130 (by kernel_rfl) (by kernel_rfl)
theorem u8row {z : Int} (h : 0 ≤ z ∧ z ≤ 255) : ((UInt8.ofNat z.toNat).toNat : Int) = z := by
  rw [UInt8.toNat_ofNat']
  omega
def tbv27 : Tb := [(2, ⟨.int .i64, 1, 8, [.int .i64 0]⟩),
  (3, ⟨.int .i64, 1, 8, [.int .i64 0]⟩),
  (5, ⟨.int .u8, 1, 1, [.int .u8 0]⟩),
  (9, ⟨.str, 1, 16, [.str []]⟩),
  (25, ⟨.int .u64, 1, 8, [.int .u64 0]⟩),
  (26, ⟨.slc 224, 1, 24, [.sl Pair.pc []]⟩),
  (142, ⟨.slc 5, 1, 24, [.sl u8c []]⟩),
  (224, ⟨.agg [(0, 1), (1, 1), (2, 1), (3, 1)], 4, 48, [.str [], .int .u8 0, .int .i64 0, .str []]⟩)]
theorem tbv27ok : tbB Tryz.prog tbv27 = true := by kernel_rfl
theorem r1_Num (n : Int) (bytes : Int) : Fn Tryz.prog gb 128 [.int .u64 n, .int .i64 bytes] (.str (numB (numK bytes) n.toNat)) := by
  refine fn_cw tbv27ok Tryz.func128 rfl Tryz.ntmps128 rfl cb128 rfl rfl fun w N H hG => ?_
  have n_r : 0 ≤ n ∧ n ≤ 18446744073709551615 := w.1
  have bytes_r : -9223372036854775808 ≤ bytes ∧ bytes ≤ 9223372036854775807 := w.2.1
  refine go tbv27ok 12 rfl rfl trivial ?_
  refine cnd rfl (fun h1 => ?_) (fun h1 => ?_)
  · have p2 := dt h1
    refine go tbv27ok 11 rfl rfl trivial ?_
    refine cndF rfl (by decide) ?_
    refine go tbv27ok 3 rfl rfl trivial ?_
    refine any [0, 1, 2, 3, 4, 5] 12 mixd rfl ?_
    refine gov tbv27ok [0, 1, 2, 3] 8 rfl (by kernel_rfl) rfl rfl ⟨(by omega), (by omega), (by omega), trivial⟩ ?_
    refine vcall 4 rfl (by kernel_rfl) (r1_Num _ _) rfl rfl fun w3 => ?_
    have := numB_len (numK (8 - 1)) ((n / 256)).toNat
    have := numK_le (8 - 1)
    refine gov tbv27ok [5, 6] 5 rfl (by kernel_rfl) rfl rfl ⟨(by omega), (by omega), trivial⟩ ?_
    refine ve 7 rfl (by kernel_rfl) rfl (eqy (qconv tbv27ok rfl rfl rfl rfl (rg_u8 (by omega))) rfl fun w4 => ?_)
    refine ve 8 rfl (by kernel_rfl) rfl (bsl 0 u8c [UInt8.ofNat ((n % 256)).toNat] tbv27ok rfl rfl rfl rfl (by first | (simp only [List.map_cons, List.map_nil, u8c]; (repeat rw [u8row (by omega)]); done) | (simp only [List.map_cons, List.map_nil, u8c]; (repeat rw [u8row (by omega)]); rfl) | (simp [u8c]; omega)) (fun _ => rfl) rfl (by decide) (by decide) rfl fun u5 => ?_)
    refine ve 9 rfl (by kernel_rfl) rfl (sb2s tbv27ok rfl rfl rfl rfl rfl rfl rfl rfl rfl (by simp) rfl ?_)
    refine gov tbv27ok [10, 11] 0 rfl (by kernel_rfl) rfl rfl ⟨(by first | omega | (simp only [List.length_append, List.length_cons, List.length_nil]; omega) | (simp only [List.length_append, List.length_cons, List.length_nil, numB_len]; omega)), trivial⟩ ?_
    refine vdone (by kernel_rfl) ?_
    refine go tbv27ok 2 rfl rfl trivial ?_
    refine rt1 rfl rfl ?_
    refine ple ?_
    first
      | (rw [num_doc n_r.1 (by omega) (by omega)]; done)
      | (rw [show numK bytes = numK 8 by unfold numK; omega, num_doc (b := 8) n_r.1 (by omega) (by omega)]; done)
      | (rw [show numK bytes = 0 by unfold numK; omega]; rfl)
  · have p6 := df h1
    refine go tbv27ok 9 rfl rfl trivial ?_
    refine cnd rfl (fun h7 => ?_) (fun h7 => ?_)
    · have p8 := dt h7
      refine go tbv27ok 7 rfl rfl trivial ?_
      refine rt1 rfl rfl ?_
      refine ple ?_
      first
        | (rw [num_doc n_r.1 (by omega) (by omega)]; done)
        | (rw [show numK bytes = numK 8 by unfold numK; omega, num_doc (b := 8) n_r.1 (by omega) (by omega)]; done)
        | (rw [show numK bytes = 0 by unfold numK; omega]; rfl)
    · have p9 := df h7
      refine go tbv27ok 3 rfl rfl trivial ?_
      refine any [0, 1, 2, 3, 4, 5] 12 mixd rfl ?_
      refine gov tbv27ok [0, 1, 2, 3] 8 rfl (by kernel_rfl) rfl rfl ⟨(by omega), (by omega), (by omega), trivial⟩ ?_
      refine vcall 4 rfl (by kernel_rfl) (r1_Num _ _) rfl rfl fun w10 => ?_
      have := numB_len (numK (bytes - 1)) ((n / 256)).toNat
      have := numK_le (bytes - 1)
      refine gov tbv27ok [5, 6] 5 rfl (by kernel_rfl) rfl rfl ⟨(by omega), (by omega), trivial⟩ ?_
      refine ve 7 rfl (by kernel_rfl) rfl (eqy (qconv tbv27ok rfl rfl rfl rfl (rg_u8 (by omega))) rfl fun w11 => ?_)
      refine ve 8 rfl (by kernel_rfl) rfl (bsl 0 u8c [UInt8.ofNat ((n % 256)).toNat] tbv27ok rfl rfl rfl rfl (by first | (simp only [List.map_cons, List.map_nil, u8c]; (repeat rw [u8row (by omega)]); done) | (simp only [List.map_cons, List.map_nil, u8c]; (repeat rw [u8row (by omega)]); rfl) | (simp [u8c]; omega)) (fun _ => rfl) rfl (by decide) (by decide) rfl fun u12 => ?_)
      refine ve 9 rfl (by kernel_rfl) rfl (sb2s tbv27ok rfl rfl rfl rfl rfl rfl rfl rfl rfl (by simp) rfl ?_)
      refine gov tbv27ok [10, 11] 0 rfl (by kernel_rfl) rfl rfl ⟨(by first | omega | (simp only [List.length_append, List.length_cons, List.length_nil]; omega) | (simp only [List.length_append, List.length_cons, List.length_nil, numB_len]; omega)), trivial⟩ ?_
      refine vdone (by kernel_rfl) ?_
      refine go tbv27ok 2 rfl rfl trivial ?_
      refine rt1 rfl rfl ?_
      refine ple ?_
      first
        | (rw [num_doc n_r.1 (by omega) (by omega)]; done)
        | (rw [show numK bytes = numK 8 by unfold numK; omega, num_doc (b := 8) n_r.1 (by omega) (by omega)]; done)
        | (rw [show numK bytes = 0 by unfold numK; omega]; rfl)
termination_by numK bytes
decreasing_by all_goals (unfold numK; omega)
theorem r1_Text (s : Bs) (hs : s.length ≤ 4611686018427387904) : Fn Tryz.prog gb 127 [.str s] (.str (txtB s)) := by
  refine fn_cw tbv27ok Tryz.func127 rfl Tryz.ntmps127 rfl cb127 rfl rfl fun w N H hG => ?_
  have s_l : s.length ≤ 9223372036854775807 := w.1
  refine go tbv27ok 9 rfl rfl trivial ?_
  refine q1 (qconv tbv27ok rfl rfl rfl rfl (rg_u64 (by omega))) rfl fun w1 => ?_
  refine call (r1_Num _ _) rfl rfl fun w2 => ?_
  have := numB_len (numK 2) ((s.length : Int)).toNat
  have := numK_le 2
  have : numK 2 = 2 := by decide
  refine go tbv27ok 6 rfl rfl ⟨(by first | omega | (simp only [List.length_append, List.length_cons, List.length_nil]; omega) | (simp only [List.length_append, List.length_cons, List.length_nil, numB_len]; omega)), trivial⟩ ?_
  refine rt1 rfl rfl ?_
  refine ple ?_
  unfold txtB
  rw [show numK 2 = 2 by decide, Int.toNat_natCast]
theorem r9_Bytes (h : List Pair) (hs : smallH h) : Fn Tryz.prog gb 130 [.sl Pair.pc h] (.str (r9B h)) := by
  refine fn_cw tbv27ok Tryz.func130 rfl Tryz.ntmps130 rfl cb130 rfl rfl fun w N H hG => ?_
  have h_l : h.length ≤ 140737488355328 := w.1.1
  have hs1 := hs.1
  refine go tbv27ok 9 rfl rfl trivial ?_
  refine q1 (qconv tbv27ok rfl rfl rfl rfl (rg_u64 (by omega))) rfl fun w1 => ?_
  refine call (r1_Num _ _) rfl rfl fun w2 => ?_
  have := numB_len (numK 1) ((h.length : Int)).toNat
  have := numK_le 1
  have : numK 1 = 1 := by decide
  refine go tbv27ok 12 rfl rfl trivial ?_
  refine loop (ι := Nat × Bs) [0, 2, 6, 7, 8, 9, 10, 11] [] (fun ⟨k, acc⟩ => [(3, .str acc), (12, .int .i64 (k : Int))]) (fun ⟨k, acc⟩ => []) (fun ⟨k, acc⟩ => k ≤ h.length ∧ r9B h = acc ++ (h.drop k).flatMap pairB ∧ acc.length ≤ 1 + 2100 * k) (fun ⟨k, acc⟩ => h.length - k) ⟨0, (numB (numK 1) (h.length : Int).toNat)⟩ ⟨rfl, rfl, trivial⟩ trivial ?_ ?_
  · exact ⟨Nat.zero_le _, by unfold r9B; rw [show numK 1 = 1 by decide, Int.toNat_natCast]; simp, by omega⟩
  · rintro ⟨k, acc⟩ hp3
    obtain ⟨hk1, hk2, hk3⟩ := hp3
    refine go tbv27ok 6 rfl rfl trivial ?_
    refine cnd rfl (fun h4 => ?_) (fun h4 => ?_)
    · have p5 := dt h4
      obtain ⟨c6, hc7⟩ := getE (xs := h) (m := k) (by omega)
      have hsm0 := hs.2 c6 (List.mem_of_getElem? hc7)
      have c6_w := Pair.pwf (w.1.2 c6 (List.mem_of_getElem? hc7))
      refine go tbv27ok 6 rfl rfl trivial ?_
      refine q1 (qidx tbv27ok k rfl rfl rfl hc7 rfl rfl rfl rfl) rfl fun w8 => ?_
      refine go tbv27ok 1 rfl rfl trivial ?_
      refine ef (alloc tbv27ok 0 rfl rfl rfl rfl fun b9 => ?_)
      refine ef (storeA tbv27ok rfl rfl rfl rfl rfl rfl rfl rfl rfl rfl ?_)
      refine go tbv27ok 3 rfl rfl trivial ?_
      refine any [1, 2, 3, 4, 5, 6] 11 mixd rfl ?_
      refine gov tbv27ok [0, 1, 2] 8 rfl (by kernel_rfl) rfl rfl trivial ?_
      refine vcall 3 rfl (by kernel_rfl) (r1_Text _ (by first | omega | (simp; done) | (simp; omega))) rfl rfl fun w10 => ?_
      have := txtB_len c6.key
      refine gov tbv27ok [4, 5, 6, 7] 3 rfl (by kernel_rfl) rfl rfl ⟨(by first | omega | (simp only [List.length_append, List.length_cons, List.length_nil]; omega) | (simp only [List.length_append, List.length_cons, List.length_nil, numB_len]; omega)), trivial⟩ ?_
      refine vcall 8 rfl (by kernel_rfl) (r1_Num _ _) rfl rfl fun w11 => ?_
      have := numB_len (numK 1) (c6.kind).toNat
      have := numK_le 1
      have : numK 1 = 1 := by decide
      refine gov tbv27ok [9, 10] 0 rfl (by kernel_rfl) rfl rfl ⟨(by first | omega | (simp only [List.length_append, List.length_cons, List.length_nil]; omega) | (simp only [List.length_append, List.length_cons, List.length_nil, numB_len]; omega)), trivial⟩ ?_
      refine vdone (by kernel_rfl) ?_
      refine go tbv27ok 8 rfl rfl trivial ?_
      refine cnd rfl (fun h12 => ?_) (fun h12 => ?_)
      · have p13 := dt h12
        refine go tbv27ok 5 rfl rfl trivial ?_
        refine call (r1_Num _ _) rfl rfl fun w14 => ?_
        have := numB_len (numK 8) ((IntKind.wrap .u64 c6.num)).toNat
        have := numK_le 8
        have : numK 8 = 8 := by decide
        refine go tbv27ok 9 rfl rfl ⟨(by first | omega | (simp only [List.length_append, List.length_cons, List.length_nil]; omega) | (simp only [List.length_append, List.length_cons, List.length_nil, numB_len]; omega)), (by omega), trivial⟩ ?_
        refine next ⟨(k + 1), (((acc ++ (txtB c6.key)) ++ (numB (numK 1) c6.kind.toNat)) ++ (numB (numK 8) (IntKind.wrap .u64 c6.num).toNat))⟩ rfl rfl ⟨rfl, rfl, trivial⟩ trivial ?_ ?_
        · (try simp only []); omega
        · have hsm := hs.2 c6 (List.mem_of_getElem? hc7)
          have hpl := pairB_len hsm
          have e : (((acc ++ (txtB c6.key)) ++ (numB (numK 1) c6.kind.toNat)) ++ (numB (numK 8) (IntKind.wrap .u64 c6.num).toNat)) = acc ++ pairB c6 := by
            unfold pairB
            have k1 : numK 1 = 1 := by decide
            have k8 : numK 8 = 8 := by decide
            rw [k1]
            first | (rw [if_pos (by omega), k8]; simp; done) | (rw [if_neg (by omega), if_pos (by omega)]; simp; done) | (rw [if_neg (by omega), if_neg (by omega)]; simp; done)
          simp only []
          rw [e]
          refine ⟨by omega, ?_, by rw [List.length_append]; omega⟩
          rw [hk2, dropE hc7, List.flatMap_cons, List.append_assoc]
      · have p15 := df h12
        refine go tbv27ok 7 rfl rfl trivial ?_
        refine cnd rfl (fun h16 => ?_) (fun h16 => ?_)
        · have p17 := dt h16
          refine go tbv27ok 4 rfl rfl trivial ?_
          refine call (r1_Text _ (by first | omega | (simp; done) | (simp; omega))) rfl rfl fun w18 => ?_
          have := txtB_len c6.text
          refine go tbv27ok 9 rfl rfl ⟨(by first | omega | (simp only [List.length_append, List.length_cons, List.length_nil]; omega) | (simp only [List.length_append, List.length_cons, List.length_nil, numB_len]; omega)), (by omega), trivial⟩ ?_
          refine next ⟨(k + 1), (((acc ++ (txtB c6.key)) ++ (numB (numK 1) c6.kind.toNat)) ++ (txtB c6.text))⟩ rfl rfl ⟨rfl, rfl, trivial⟩ trivial ?_ ?_
          · (try simp only []); omega
          · have hsm := hs.2 c6 (List.mem_of_getElem? hc7)
            have hpl := pairB_len hsm
            have e : (((acc ++ (txtB c6.key)) ++ (numB (numK 1) c6.kind.toNat)) ++ (txtB c6.text)) = acc ++ pairB c6 := by
              unfold pairB
              have k1 : numK 1 = 1 := by decide
              have k8 : numK 8 = 8 := by decide
              rw [k1]
              first | (rw [if_pos (by omega), k8]; simp; done) | (rw [if_neg (by omega), if_pos (by omega)]; simp; done) | (rw [if_neg (by omega), if_neg (by omega)]; simp; done)
            simp only []
            rw [e]
            refine ⟨by omega, ?_, by rw [List.length_append]; omega⟩
            rw [hk2, dropE hc7, List.flatMap_cons, List.append_assoc]
        · have p19 := df h16
          refine go tbv27ok 5 rfl rfl trivial ?_
          refine call (r1_Num _ _) rfl rfl fun w20 => ?_
          have := numB_len (numK 1) ((IntKind.wrap .u64 c6.num)).toNat
          have := numK_le 1
          have : numK 1 = 1 := by decide
          refine go tbv27ok 9 rfl rfl ⟨(by first | omega | (simp only [List.length_append, List.length_cons, List.length_nil]; omega) | (simp only [List.length_append, List.length_cons, List.length_nil, numB_len]; omega)), (by omega), trivial⟩ ?_
          refine next ⟨(k + 1), (((acc ++ (txtB c6.key)) ++ (numB (numK 1) c6.kind.toNat)) ++ (numB (numK 1) (IntKind.wrap .u64 c6.num).toNat))⟩ rfl rfl ⟨rfl, rfl, trivial⟩ trivial ?_ ?_
          · (try simp only []); omega
          · have hsm := hs.2 c6 (List.mem_of_getElem? hc7)
            have hpl := pairB_len hsm
            have e : (((acc ++ (txtB c6.key)) ++ (numB (numK 1) c6.kind.toNat)) ++ (numB (numK 1) (IntKind.wrap .u64 c6.num).toNat)) = acc ++ pairB c6 := by
              unfold pairB
              have k1 : numK 1 = 1 := by decide
              have k8 : numK 8 = 8 := by decide
              rw [k1]
              first | (rw [if_pos (by omega), k8]; simp; done) | (rw [if_neg (by omega), if_pos (by omega)]; simp; done) | (rw [if_neg (by omega), if_neg (by omega)]; simp; done)
            simp only []
            rw [e]
            refine ⟨by omega, ?_, by rw [List.length_append]; omega⟩
            rw [hk2, dropE hc7, List.flatMap_cons, List.append_assoc]
    · have p21 := df h4
      refine go tbv27ok 12 rfl rfl trivial ?_
      refine rt1 rfl rfl ?_
      refine ple ?_
      rw [hk2, List.drop_of_length_le (by omega)]
      simp
end Go.SW.V
set_option linter.unusedVariables false
set_option maxRecDepth 100000
set_option maxHeartbeats 4000000
namespace Go.SW.V
open Go.SW Go.Proofs
theorem cb129 : Callable Tryz.prog 129 := callable_of Tryz.func129 (by kernel_rfl) (by kernel_rfl)
theorem cb181 : Callable Tryz.prog 181 := callable_of Tryz.func181 (by kernel_rfl) (by kernel_rfl)
def tbv29 : Tb := [(5, ⟨.int .u8, 1, 1, [.int .u8 0]⟩),
  (9, ⟨.str, 1, 16, [.str []]⟩),
  (228, ⟨.int .u32, 1, 4, [.int .u32 0]⟩)]
theorem tbv29ok : tbB Tryz.prog tbv29 = true := by kernel_rfl
theorem r2_Step (r : Int) (b : Int) : Fn Tryz.prog gb 181 [.int .u32 r, .int .u8 b] (.int .u32 (crcStep r b)) := by
  refine fn_cw tbv29ok Tryz.func181 rfl Tryz.ntmps181 rfl cb181 rfl rfl fun w N H hG => ?_
  have r_r : 0 ≤ r ∧ r ≤ 4294967295 := w.1
  have b_r : 0 ≤ b ∧ b ≤ 255 := w.2.1
  have := wr_u32 ((BitVec.ofInt (IntKind.bits .u32) r ^^^ BitVec.ofInt (IntKind.bits .u32) b).toNat)
  refine go tbv29ok 21 rfl rfl trivial ?_
  refine loop (ι := Nat × Int) [1, 4, 7, 8, 9, 10] [] (fun ⟨k, q⟩ => [(0, .int .u32 q), (5, .int .i64 (k : Int))]) (fun ⟨k, q⟩ => []) (fun ⟨k, q⟩ => k ≤ 8 ∧ bitIt (8 - k) q = crcStep r b ∧ 0 ≤ q ∧ q ≤ 4294967295) (fun ⟨k, q⟩ => 8 - k) ⟨0, (xor32 r b)⟩ ⟨rfl, rfl, trivial⟩ trivial ?_ ?_
  · have hx : 0 ≤ xor32 r b ∧ xor32 r b ≤ 4294967295 := by unfold xor32; exact wr_u32 _
    exact ⟨Nat.zero_le _, bit8 r b, hx.1, hx.2⟩
  · rintro ⟨k, q⟩ hp1
    obtain ⟨hk1, hk2, hk3, hk4⟩ := hp1
    refine go tbv29ok 7 rfl rfl trivial ?_
    refine cnd rfl (fun h2 => ?_) (fun h2 => ?_)
    · have p3 := dt h2
      refine go tbv29ok 24 rfl rfl ⟨(by omega), (by omega), (by omega), (by omega), trivial⟩ ?_
      refine cnd rfl (fun h4 => ?_) (fun h4 => ?_)
      · have p5 := dt h4
        have := wr_u32 ((BitVec.ofInt (IntKind.bits .u32) (q / 2) ^^^ BitVec.ofInt (IntKind.bits .u32) 3988292384).toNat)
        refine go tbv29ok 12 rfl rfl ⟨(by omega), trivial⟩ ?_
        refine next ⟨(k + 1), (IntKind.wrap .u32 ((BitVec.ofInt (IntKind.bits .u32) (q / 2) ^^^ BitVec.ofInt (IntKind.bits .u32) 3988292384).toNat))⟩ rfl rfl ⟨rfl, rfl, trivial⟩ trivial ?_ ?_
        · (try simp only []); omega
        · (try simp only [])
          have e : bit1 q = (IntKind.wrap .u32 ((BitVec.ofInt (IntKind.bits .u32) (q / 2) ^^^ BitVec.ofInt (IntKind.bits .u32) 3988292384).toNat)) := by unfold bit1; first | (rw [if_pos (by omega)]; rfl) | (rw [if_neg (by omega)]; rfl) | rw [if_pos (by omega)] | rw [if_neg (by omega)]
          have hb := bit1_r (q := q) ⟨hk3, hk4⟩
          rw [e] at hb
          refine ⟨by omega, ?_, hb.1, hb.2⟩
          have z : ∀ n, bitIt (n + 1) q = bitIt n (bit1 q) := fun _ => rfl
          rw [← hk2, show 8 - k = (8 - (k + 1)) + 1 by omega, z, e]
      · have p6 := df h4
        refine go tbv29ok 8 rfl rfl ⟨(by omega), trivial⟩ ?_
        refine next ⟨(k + 1), (q / 2)⟩ rfl rfl ⟨rfl, rfl, trivial⟩ trivial ?_ ?_
        · (try simp only []); omega
        · (try simp only [])
          have e : bit1 q = (q / 2) := by unfold bit1; first | (rw [if_pos (by omega)]; rfl) | (rw [if_neg (by omega)]; rfl) | rw [if_pos (by omega)] | rw [if_neg (by omega)]
          have hb := bit1_r (q := q) ⟨hk3, hk4⟩
          rw [e] at hb
          refine ⟨by omega, ?_, hb.1, hb.2⟩
          have z : ∀ n, bitIt (n + 1) q = bitIt n (bit1 q) := fun _ => rfl
          rw [← hk2, show 8 - k = (8 - (k + 1)) + 1 by omega, z, e]
    · have p7 := df h2
      refine go tbv29ok 12 rfl rfl trivial ?_
      refine rt1 rfl rfl ?_
      refine ple ?_
      obtain rfl : k = 8 := by omega
      exact congrArg (PV.int .u32) hk2
theorem r2_Sum (s : Bs) : Fn Tryz.prog gb 129 [.str s] (.int .u32 (crcSum [s])) := by
  refine fn_cw tbv29ok Tryz.func129 rfl Tryz.ntmps129 rfl cb129 rfl rfl fun w N H hG => ?_
  have s_l : s.length ≤ 9223372036854775807 := w.1
  refine go tbv29ok 17 rfl rfl trivial ?_
  refine loop (ι := Nat × Int) [0, 2] [] (fun ⟨k, q⟩ => [(3, .int .u32 q), (4, .int .i64 (k : Int))]) (fun ⟨k, q⟩ => []) (fun ⟨k, q⟩ => k ≤ s.length ∧ crcB 4294967295 s = (s.drop k).foldl (fun q c => crcStep q c.toNat) q ∧ 0 ≤ q ∧ q ≤ 4294967295) (fun ⟨k, q⟩ => s.length - k) ⟨0, 4294967295⟩ ⟨rfl, rfl, trivial⟩ trivial ?_ ?_
  · exact ⟨Nat.zero_le _, rfl, by omega, by omega⟩
  · rintro ⟨k, q⟩ hp1
    obtain ⟨hk1, hk2, hk3, hk4⟩ := hp1
    refine go tbv29ok 9 rfl rfl trivial ?_
    refine cnd rfl (fun h2 => ?_) (fun h2 => ?_)
    · have p3 := dt h2
      have := u8r (s.getD k 0)
      refine go tbv29ok 8 rfl rfl trivial ?_
      refine q1 (sidx tbv29ok k rfl rfl rfl rfl rfl (by omega)) rfl fun w4 => ?_
      refine call (r2_Step _ _) rfl rfl fun w5 => ?_
      have := crcStep_r q ((s.getD k 0).toNat : Int)
      refine go tbv29ok 9 rfl rfl ⟨(by omega), trivial⟩ ?_
      refine next ⟨(k + 1), (crcStep q (s.getD k 0).toNat)⟩ rfl rfl ⟨rfl, rfl, trivial⟩ trivial ?_ ?_
      · (try simp only []); omega
      · (try simp only [])
        refine ⟨by omega, ?_, by omega, by omega⟩
        rw [hk2, drop_getD (k := k) (by omega), List.foldl_cons]
    · have p6 := df h2
      have := wr_u32 ((BitVec.ofInt (IntKind.bits .u32) q ^^^ BitVec.ofInt (IntKind.bits .u32) 4294967295).toNat)
      refine go tbv29ok 13 rfl rfl trivial ?_
      refine rt1 rfl rfl ?_
      refine ple ?_
      rw [List.drop_of_length_le (by omega), List.foldl_nil] at hk2
      refine congrArg (PV.int .u32) ?_
      unfold crcSum
      simp only [List.foldl_cons, List.foldl_nil]
      rw [hk2]
      first | rfl | (unfold xor32; rw [BitVec.xor_comm]; done) | (unfold xor32; rw [BitVec.xor_comm]; rfl)
end Go.SW.V
