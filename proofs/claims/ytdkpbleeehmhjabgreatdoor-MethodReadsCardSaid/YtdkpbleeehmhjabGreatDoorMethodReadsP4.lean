/-
  A part of the proof of MethodReads: The walks of this seat, printed by program: words.Matches, words.Pattern. The walks of this seat, printed by program: head.Bytes, head.one, head.Read. The walks of this seat, printed by program: crc.Step, crc.Sum, frame.Bytes, frame.Same, frame.Parse. The walks of this seat, printed by program: reply.blank, reply.Reply.spare, reply.mail, reply.Reply.Check, reply.Reply.Frame. The walks of this seat, printed by program: feed.Feed.Take, feed.Feed.Rest, feed.Feed.Err. The walks of this seat, printed by program: reply.sameMail, reply.Same. The walks of this seat, printed by program: stairwellref04.Name, stairwellref04.Split, stairwellref04.Key. The walks of this seat, printed by program: stairwellref09.Pair, stairwellref09.Check, stairwellref09.Same, stairwellref12.tellsN, stairwellref12.tellsM. The walks of this seat, printed by program: stairwelllaw09.Light, stairwelllaw12.Light, stairwelllaw12.To. The walks of this seat, printed by program: match.Rule.Check, match.Rule.heads, match.Rule.Goes. The walks of this seat, printed by program: stairwelllaw01.awake, stairwelllaw01.Awake, stairwelllaw04.awake, stairwelllaw04.Awake, stairwelllaw09.awake, stairwelllaw09.Awake, stairwelllaw10.awake, stairwelllaw10.Awake. The walks of this seat, printed by program: stairwelllaw02.awake, stairwelllaw02.Awake, stairwelllaw07.awake, stairwelllaw07.Awake. The walks of this seat, printed by program: stairwellref01.Num, stairwellref01.Text, stairwellref09.Bytes. The walks of this seat, printed by program: stairwellref02.Step, stairwellref02.Sum. The walks of this seat, printed by program: stairwellref07.Bytes. The walks of this seat, printed by program: stairwellref12.Check. The walks of this seat, printed by program: strings.ContainsAny, method.Method.tells, method.Method.spare, method.Same, stairwellref11.Same, stairwellref11.Of. The walks of this seat, printed by program: method.Method.one, method.Method.Check, stairwelllaw11.To, stairwelllaw11.Light, stairwellref11.Check, stairwellref01.In.Fail. The walks of this seat, printed by program: method.Method.Frame, stairwellref11.Bytes, stairwellref01.In.Raw. The walks of this seat, printed by program: stairwellref01.In.Num, stairwellref01.In.End, method.Of. The walks of this seat, printed by program: stairwellref01.In.Text.
-/
import Derived.Test.YtdkpbleeehmhjabGreatDoorProg
import Derived.Test.YtdkpbleeehmhjabGreatDoorMethodReadsP2
import Derived.Test.YtdkpbleeehmhjabGreatDoorMethodReadsP3
import Derived.KernelRfl
set_option linter.unusedVariables false
set_option linter.unusedSimpArgs false
set_option linter.unusedVariables false
set_option maxRecDepth 100000
set_option maxHeartbeats 4000000
namespace Go.SW.V
open Go.SW Go.Proofs
theorem cb116 : Callable Tryz.prog 116 := callable_of Tryz.func116 (by kernel_rfl) (by kernel_rfl)
theorem cb95 : Callable Tryz.prog 95 := callable_of Tryz.func95 (by kernel_rfl) (by kernel_rfl)
def tbv7 : Tb := [(9, ⟨.str, 1, 16, [.str []]⟩),
  (119, ⟨.slc 9, 1, 24, [.sl strc []]⟩)]
theorem tbv7ok : tbB Tryz.prog tbv7 = true := by kernel_rfl
theorem words_Matches (pattern : Bs) (key : Bs) (hp : pattern.length < 4294967281) (hk : key.length < 4294967281) : Fn Tryz.prog gb 116 [.str pattern, .str key] (.bool (mt (wordsOf pattern) (wordsOf key))) := by
  refine fn_cw tbv7ok Tryz.func116 rfl Tryz.ntmps116 rfl cb116 rfl rfl fun w N H hG => ?_
  have pattern_l : pattern.length ≤ 9223372036854775807 := w.1
  have key_l : key.length ≤ 9223372036854775807 := w.2.1
  refine go tbv7ok 8 rfl rfl trivial ?_
  refine call (words_Split _ (by omega)) rfl rfl fun w1 => ?_
  refine go tbv7ok 1 rfl rfl trivial ?_
  refine call (words_Split _ (by omega)) rfl rfl fun w2 => ?_
  refine go tbv7ok 18 rfl rfl trivial ?_
  refine loop (ι := Nat × Nat × Int × Nat) [0, 1, 5, 6, 11, 12, 13, 14] [] (fun ⟨i, j, b, f⟩ => [(7, .int .i64 (i : Int)), (8, .int .i64 (j : Int)), (9, .int .i64 b), (10, .int .i64 (f : Int))]) (fun ⟨i, j, b, f⟩ => []) (fun ⟨i, j, b, f⟩ => MI (wordsOf pattern) (wordsOf key) i j b f) (fun ⟨i, j, b, f⟩ => mmu (wordsOf pattern) (wordsOf key) j b f) ⟨0, 0, (-1), 0⟩ ⟨rfl, rfl, rfl, rfl, trivial⟩ trivial ?_ ?_
  · exact MI.start _ _
  · rintro ⟨i, j, b, f⟩ hp3
    have hmi := hp3
    have hwp := words_le pattern
    have hwk := words_le key
    have := hmi.hi
    have := hmi.hj
    have := hmi.hf
    have := hmi.hb
    have := hmi.hbi
    refine go tbv7ok 9 rfl rfl trivial ?_
    refine cnd rfl (fun h4 => ?_) (fun h4 => ?_)
    · have p5 := dt h4
      obtain ⟨c6, hc7⟩ := getJ (wordsOf pattern) i
      refine go tbv7ok 13 rfl rfl trivial ?_
      refine q1g [25, 26] rfl (fun hc => qidx tbv7ok i rfl rfl rfl (hc7 (by first | omega | (simp only [gOf, Bool.and_eq_true, Bool.or_eq_true, Bool.not_eq_true', decide_eq_true_eq, decide_eq_false_iff_not, Bool.not_eq_false', Bool.and_true, Bool.true_and, cond_true, cond_false] at *; omega))) rfl rfl rfl rfl) ⟨(fun hc => hc), (fun hc => hc), trivial⟩ rfl rfl rfl fun _ => ?_
      refine go tbv7ok 6 rfl rfl ⟨(fun hc => hc), (fun hc => hc), rfl, rfl, trivial⟩ ?_
      refine cnd rfl (fun h8 => ?_) (fun h8 => ?_)
      · have h9 := bl h8
        have p10 := dt h9
        have h11 := br h8
        have p12 := dt h11
        refine go tbv7ok 15 rfl rfl ⟨(by omega), trivial⟩ ?_
        obtain ⟨c13, hc14⟩ := getE (xs := wordsOf key) (m := j) (by omega)
        refine next ⟨(i + 1), j, ((i : Int) + 1), j⟩ rfl rfl ⟨(congrArg (PV.int .i64) (by omega)), rfl, rfl, rfl, trivial⟩ trivial ?_ ?_
        · exact mmu_hash hmi (by omega)
        · exact MI.hash hmi (by rw [(hc7 (by first | omega | (simp only [gOf, Bool.and_eq_true, Bool.or_eq_true, Bool.not_eq_true', decide_eq_true_eq, decide_eq_false_iff_not, Bool.not_eq_false', Bool.and_true, Bool.true_and, cond_true, cond_false] at *; omega)))]; simp [*])
      · refine go tbv7ok 1 rfl rfl trivial ?_
        refine any [0, 1, 2, 3, 4, 5] 23 mixd rfl ?_
        refine gov tbv7ok [0, 1, 2, 3, 4, 5, 6] 16 rfl (by kernel_rfl) rfl rfl trivial ?_
        refine vqg 7 [41, 42] rfl (by kernel_rfl) rfl rfl (fun hc => qidx tbv7ok i rfl rfl rfl (hc7 (by first | omega | (simp only [gOf, Bool.and_eq_true, Bool.or_eq_true, Bool.not_eq_true', decide_eq_true_eq, decide_eq_false_iff_not, Bool.not_eq_false', Bool.and_true, Bool.true_and, cond_true, cond_false] at *; omega))) rfl rfl rfl rfl) ⟨(fun hc => hc), (fun hc => hc), trivial⟩ rfl fun _ => ?_
        refine gov tbv7ok [8, 9, 10, 11, 12] 10 rfl (by kernel_rfl) rfl rfl ⟨(fun hc => hc), (fun hc => hc), (fun hc => hc), trivial⟩ ?_
        refine vqg 13 [47, 48] rfl (by kernel_rfl) rfl rfl (fun hc => qidx tbv7ok i rfl rfl rfl (hc7 (by first | omega | (simp only [gOf, Bool.and_eq_true, Bool.or_eq_true, Bool.not_eq_true', decide_eq_true_eq, decide_eq_false_iff_not, Bool.not_eq_false', Bool.and_true, Bool.true_and, cond_true, cond_false] at *; omega))) rfl rfl rfl rfl) ⟨(fun hc => hc), (fun hc => hc), trivial⟩ rfl fun _ => ?_
        refine gov tbv7ok [14, 15, 16] 6 rfl (by kernel_rfl) rfl rfl ⟨(fun hc => hc), trivial⟩ ?_
        obtain ⟨c15, hc16⟩ := getJ (wordsOf key) j
        refine vqg 17 [51, 52] rfl (by kernel_rfl) rfl rfl (fun hc => qidx tbv7ok j rfl rfl rfl (hc16 (by first | omega | (simp only [gOf, Bool.and_eq_true, Bool.or_eq_true, Bool.not_eq_true', decide_eq_true_eq, decide_eq_false_iff_not, Bool.not_eq_false', Bool.and_true, Bool.true_and, cond_true, cond_false] at *; omega))) rfl rfl rfl rfl) ⟨(fun hc => hc), (fun hc => hc), trivial⟩ rfl fun _ => ?_
        refine gov tbv7ok [18, 19, 20, 21, 22] 0 rfl (by kernel_rfl) rfl rfl ⟨(fun hc => hc), (fun hc => hc), (fun hc => hc), (fun hc => hc), (fun hc => (by rw [hc]; rfl)), (fun hc => rfl), rfl, rfl, trivial⟩ ?_
        refine vdone (by kernel_rfl) ?_
        refine go tbv7ok 1 rfl rfl trivial ?_
        refine cnd rfl (fun h17 => ?_) (fun h17 => ?_)
        · have h18 := bl h17
          have p19 := dt h18
          have h20 := br h17
          refine go tbv7ok 10 rfl rfl ⟨(by omega), (by omega), trivial⟩ ?_
          refine next ⟨(i + 1), (j + 1), b, f⟩ rfl rfl ⟨(congrArg (PV.int .i64) (by omega)), rfl, rfl, rfl, trivial⟩ trivial ?_ ?_
          · exact mmu_step (by omega)
          · first | exact MI.step hmi (hc7 (by first | omega | (simp only [gOf, Bool.and_eq_true, Bool.or_eq_true, Bool.not_eq_true', decide_eq_true_eq, decide_eq_false_iff_not, Bool.not_eq_false', Bool.and_true, Bool.true_and, cond_true, cond_false] at *; omega))) (hc16 (by first | omega | (simp only [gOf, Bool.and_eq_true, Bool.or_eq_true, Bool.not_eq_true', decide_eq_true_eq, decide_eq_false_iff_not, Bool.not_eq_false', Bool.and_true, Bool.true_and, cond_true, cond_false] at *; omega))) (by assumption) (by first | exact .inl (by assumption) | exact .inr (by assumption)) | exact MI.step hmi (hc7 (by first | omega | (simp only [gOf, Bool.and_eq_true, Bool.or_eq_true, Bool.not_eq_true', decide_eq_true_eq, decide_eq_false_iff_not, Bool.not_eq_false', Bool.and_true, Bool.true_and, cond_true, cond_false] at *; omega))) (hc16 (by first | omega | (simp only [gOf, Bool.and_eq_true, Bool.or_eq_true, Bool.not_eq_true', decide_eq_true_eq, decide_eq_false_iff_not, Bool.not_eq_false', Bool.and_true, Bool.true_and, cond_true, cond_false] at *; omega))) (by simp_all) (by first | (left; simp_all; done) | (right; simp_all; done) | grind)
        · refine go tbv7ok 7 rfl rfl trivial ?_
          refine cnd rfl (fun h21 => ?_) (fun h21 => ?_)
          · have p22 := dt h21
            refine go tbv7ok 15 rfl rfl ⟨(by omega), trivial⟩ ?_
            have hbad : ∀ w, (wordsOf pattern)[i]? = some w → w ≠ [35] ∧ w ≠ [42] ∧ w ≠ c15 := by
              intro w hw
              obtain ⟨hlt, _⟩ := List.getElem?_eq_some_iff.1 hw
              rw [(hc7 (by first | omega | (simp only [gOf, Bool.and_eq_true, Bool.or_eq_true, Bool.not_eq_true', decide_eq_true_eq, decide_eq_false_iff_not, Bool.not_eq_false', Bool.and_true, Bool.true_and, cond_true, cond_false] at *; omega)))] at hw; cases hw
              first | exact ⟨by assumption, by assumption, by assumption⟩ | (refine ⟨?_, ?_, ?_⟩ <;> intro q <;> simp_all)
            refine next ⟨b.toNat, (f + 1), b, (f + 1)⟩ rfl rfl ⟨(congrArg (PV.int .i64) (by omega)), rfl, rfl, rfl, trivial⟩ trivial ?_ ?_
            · exact mmu_back hmi.hf (by omega)
            · exact MI.back hmi (hc16 (by first | omega | (simp only [gOf, Bool.and_eq_true, Bool.or_eq_true, Bool.not_eq_true', decide_eq_true_eq, decide_eq_false_iff_not, Bool.not_eq_false', Bool.and_true, Bool.true_and, cond_true, cond_false] at *; omega))) (by omega) hbad
          · have p23 := df h21
            refine go tbv7ok 11 rfl rfl trivial ?_
            refine rt1 rfl rfl ?_
            refine ple ?_
            have hbad : ∀ w, (wordsOf pattern)[i]? = some w → w ≠ [35] ∧ w ≠ [42] ∧ w ≠ c15 := by
              intro w hw
              obtain ⟨hlt, _⟩ := List.getElem?_eq_some_iff.1 hw
              rw [(hc7 (by first | omega | (simp only [gOf, Bool.and_eq_true, Bool.or_eq_true, Bool.not_eq_true', decide_eq_true_eq, decide_eq_false_iff_not, Bool.not_eq_false', Bool.and_true, Bool.true_and, cond_true, cond_false] at *; omega)))] at hw; cases hw
              first | exact ⟨by assumption, by assumption, by assumption⟩ | (refine ⟨?_, ?_, ?_⟩ <;> intro q <;> simp_all)
            exact congrArg PV.bool (MI.none hmi (hc16 (by first | omega | (simp only [gOf, Bool.and_eq_true, Bool.or_eq_true, Bool.not_eq_true', decide_eq_true_eq, decide_eq_false_iff_not, Bool.not_eq_false', Bool.and_true, Bool.true_and, cond_true, cond_false] at *; omega))) (by omega) hbad).symm
    · have p24 := df h4
      refine go tbv7ok 7 rfl rfl trivial ?_
      refine loop (ι := Nat) [0, 1, 5, 6, 8, 9, 10, 11, 12, 13, 14, 15, 16, 17, 18] [] (fun q => [(7, .int .i64 (q : Int))]) (fun q => []) (fun q => q ≤ (wordsOf pattern).length ∧ mt (wordsOf pattern) (wordsOf key) = mt ((wordsOf pattern).drop q) []) (fun q => (wordsOf pattern).length - q) i ⟨rfl, trivial⟩ trivial ?_ ?_
      · exact ⟨by omega, hmi.fin (by omega)⟩
      · rintro q hp25
        obtain ⟨hq1, hq2⟩ := hp25
        obtain ⟨c26, hc27⟩ := getJ (wordsOf pattern) q
        refine go tbv7ok 10 rfl rfl trivial ?_
        refine q1g [74, 75] rfl (fun hc => qidx tbv7ok q rfl rfl rfl (hc27 (by first | omega | (simp only [gOf, Bool.and_eq_true, Bool.or_eq_true, Bool.not_eq_true', decide_eq_true_eq, decide_eq_false_iff_not, Bool.not_eq_false', Bool.and_true, Bool.true_and, cond_true, cond_false] at *; omega))) rfl rfl rfl rfl) ⟨(fun hc => hc), (fun hc => hc), trivial⟩ rfl rfl rfl fun _ => ?_
        refine go tbv7ok 5 rfl rfl ⟨(fun hc => hc), (fun hc => hc), rfl, rfl, trivial⟩ ?_
        refine cnd rfl (fun h28 => ?_) (fun h28 => ?_)
        · have h29 := bl h28
          have p30 := dt h29
          have h31 := br h28
          have p32 := dt h31
          refine go tbv7ok 9 rfl rfl ⟨(by omega), trivial⟩ ?_
          refine next (q + 1) rfl rfl ⟨rfl, trivial⟩ trivial ?_ ?_
          · omega
          · exact ⟨by omega, mt_end hq2 (by rw [(hc27 (by first | omega | (simp only [gOf, Bool.and_eq_true, Bool.or_eq_true, Bool.not_eq_true', decide_eq_true_eq, decide_eq_false_iff_not, Bool.not_eq_false', Bool.and_true, Bool.true_and, cond_true, cond_false] at *; omega)))]; simp [*])⟩
        · refine go tbv7ok 15 rfl rfl trivial ?_
          refine rt1 rfl rfl ?_
          refine ple ?_
          refine congrArg PV.bool ?_
          rw [hq2]
          by_cases hql : q < (wordsOf pattern).length
          · rw [mt_endN (hc27 (by first | omega | (simp only [gOf, Bool.and_eq_true, Bool.or_eq_true, Bool.not_eq_true', decide_eq_true_eq, decide_eq_false_iff_not, Bool.not_eq_false', Bool.and_true, Bool.true_and, cond_true, cond_false] at *; omega))) (by first | assumption | simp_all)]
            rw [decide_eq_false_iff_not]; omega
          · have hqe : q = (wordsOf pattern).length := by omega
            subst hqe
            rw [List.drop_length]; simp [mt]
theorem words_Pattern (s : Bs) : Fn Tryz.prog gb 95 [.str s] (.int .i64 (keyE patB s)) := by
  refine fn_cw tbv7ok Tryz.func95 rfl Tryz.ntmps95 rfl cb95 rfl rfl fun w N H hG => ?_
  have s_l : s.length ≤ 9223372036854775807 := w.1
  refine go tbv7ok 8 rfl rfl trivial ?_
  refine ef (bsl 0 strc [[42], [35]] tbv7ok rfl rfl rfl rfl rfl (fun _ => rfl) rfl (by decide) (by decide) rfl fun u1 => ?_)
  refine ef (calll 0 rfl (words_key _ _) rfl rfl rfl fun w2 => ?_)
  refine go tbv7ok 4 rfl rfl trivial ?_
  refine rt1 rfl rfl ?_
  refine ple ?_
  rfl
end Go.SW.V
set_option linter.unusedVariables false
set_option maxRecDepth 100000
set_option maxHeartbeats 4000000
namespace Go.SW.V
open Go.SW Go.Proofs
theorem cb103 : Callable Tryz.prog 103 := callable_of Tryz.func103 (by kernel_rfl) (by kernel_rfl)
theorem cb61 : Callable Tryz.prog 61 := callable_of Tryz.func61 (by kernel_rfl) (by kernel_rfl)
theorem cb83 : Callable Tryz.prog 83 := callable_of Tryz.func83 (by kernel_rfl) (by kernel_rfl)
def tbv8 : Tb := [(2, ⟨.int .i64, 1, 8, [.int .i64 0]⟩),
  (3, ⟨.int .i64, 1, 8, [.int .i64 0]⟩),
  (5, ⟨.int .u8, 1, 1, [.int .u8 0]⟩),
  (9, ⟨.str, 1, 16, [.str []]⟩),
  (25, ⟨.int .u64, 1, 8, [.int .u64 0]⟩),
  (26, ⟨.slc 118, 1, 24, [.sl Pair.pc []]⟩),
  (109, ⟨.agg [(0, 1), (1, 1)], 2, 24, [.str [], .int .i64 0]⟩),
  (118, ⟨.agg [(0, 1), (1, 1), (2, 1), (3, 1)], 4, 48, [.str [], .int .u8 0, .int .i64 0, .str []]⟩)]
theorem tbv8ok : tbB Tryz.prog tbv8 = true := by kernel_rfl
theorem head_Bytes (h : List Pair) : Fn Tryz.prog gb 61 [.sl Pair.pc h] (.tup [.str (headBytes h), .int .i64 (headE h)]) := by
  refine fn_cw tbv8ok Tryz.func61 rfl Tryz.ntmps61 rfl cb61 rfl rfl fun w N H hG => ?_
  have h_l : h.length ≤ 140737488355328 := w.1.1
  refine go tbv8ok 10 rfl rfl trivial ?_
  refine call (head_Check _) rfl rfl fun w1 => ?_
  refine go tbv8ok 9 rfl rfl trivial ?_
  refine cnd rfl (fun h2 => ?_) (fun h2 => ?_)
  · have h3 := not_t h2
    have p4 := df h3
    refine go tbv8ok 9 rfl rfl trivial ?_
    refine rt2 rfl rfl ?_
    refine ple ?_
    unfold headBytes
    rw [if_neg (by omega)]
  · have h5 := not_f h2
    have p6 := dt h5
    refine go tbv8ok 7 rfl rfl trivial ?_
    refine q1 (qconv tbv8ok rfl rfl rfl rfl (rg_u64 (by omega))) rfl fun w7 => ?_
    refine call (out_Num (⟨[], 0⟩ : Out) _ _ (by first | omega | (have := hrl (by assumption); omega) | (simp [outNum, outRaw, numB_len, numK] <;> omega) | (have := hrl (by assumption); simp [outNum, outRaw, numB_len, numK] <;> omega))) rfl rfl fun w8 => ?_
    have nl0 : (⟨[], 0⟩ : Out).s.length = 0 := rfl
    have := outNum_len (⟨[], 0⟩ : Out) (h.length : Int) 1
    refine ef (alloc tbv8ok 0 rfl rfl rfl rfl fun b9 => ?_)
    refine ef (storeA tbv8ok rfl rfl rfl rfl rfl rfl rfl rfl rfl rfl ?_)
    refine go tbv8ok 11 rfl rfl trivial ?_
    refine loop (ι := Nat × Out) [0, 2, 3, 4, 5, 8, 9, 10, 11, 13, 14, 15, 16, 17, 18, 19] [] (fun ⟨k, o⟩ => [(20, .int .i64 (k : Int))]) (fun ⟨k, o⟩ => [(0, .box b9 109 [.str o.s, .int .i64 o.err])]) (fun ⟨k, o⟩ => k ≤ h.length ∧ h.foldl pairOut (outNum ⟨[], 0⟩ h.length 1) = (h.drop k).foldl pairOut o ∧ o.s.length ≤ 8 + 110 * k) (fun ⟨k, o⟩ => h.length - k) ⟨0, (outNum (⟨[], 0⟩ : Out) (h.length : Int) 1)⟩ ⟨rfl, trivial⟩ ⟨rfl, trivial⟩ ?_ ?_
    · exact ⟨Nat.zero_le _, rfl, by simp at *; omega⟩
    · rintro ⟨k, o⟩ hp10
      obtain ⟨hk1, hk2, hk3⟩ := hp10
      have hok := headE_ok (h := h) (by assumption)
      refine go tbv8ok 6 rfl rfl trivial ?_
      refine cnd rfl (fun h11 => ?_) (fun h11 => ?_)
      · have p12 := dt h11
        obtain ⟨c13, hc14⟩ := getE (xs := h) (m := k) (by omega)
        have hpk := hok.2 c13 (List.mem_of_getElem? hc14)
        have c13_w := Pair.pwf (w.1.2 c13 (List.mem_of_getElem? hc14))
        refine go tbv8ok 6 rfl rfl trivial ?_
        refine q1 (qidx tbv8ok k rfl rfl rfl hc14 rfl rfl rfl rfl) rfl fun w15 => ?_
        refine go tbv8ok 1 rfl rfl trivial ?_
        refine ef (alloc tbv8ok 1 rfl rfl rfl rfl fun b16 => ?_)
        refine ef (storeA tbv8ok rfl rfl rfl rfl rfl rfl rfl rfl rfl rfl ?_)
        refine go tbv8ok 3 rfl rfl trivial ?_
        refine any [2, 3, 4, 5, 6, 7] 9 mixd rfl ?_
        refine gov tbv8ok [0, 1, 2] 6 rfl (by kernel_rfl) rfl rfl trivial ?_
        refine vcall 3 rfl (by kernel_rfl) (out_Text _ _ (by first | omega | (have := hrl (by assumption); omega) | (simp [outNum, outRaw, numB_len, numK] <;> omega) | (have := hrl (by assumption); simp [outNum, outRaw, numB_len, numK] <;> omega))) rfl rfl fun w17 => ?_
        have := outText_len o c13.key
        refine gov tbv8ok [4, 5, 6] 2 rfl (by kernel_rfl) rfl rfl trivial ?_
        refine vcall 7 rfl (by kernel_rfl) (out_Num _ _ _ (by first | omega | (have := hrl (by assumption); omega) | (simp [outNum, outRaw, numB_len, numK] <;> omega) | (have := hrl (by assumption); simp [outNum, outRaw, numB_len, numK] <;> omega))) rfl rfl fun w18 => ?_
        have := outNum_len (outText o c13.key) c13.kind 1
        refine vt 8 rfl (by kernel_rfl) (by kernel_rfl) (storeA tbv8ok rfl rfl rfl rfl rfl rfl rfl rfl rfl rfl ?_)
        refine vdone (by kernel_rfl) ?_
        refine go tbv8ok 14 rfl rfl trivial ?_
        refine cnd rfl (fun h19 => ?_) (fun h19 => ?_)
        · have p20 := dt h19
          refine go tbv8ok 5 rfl rfl trivial ?_
          refine call (out_Num _ _ _ (by first | omega | (have := hrl (by assumption); omega) | (simp [outNum, outRaw, numB_len, numK] <;> omega) | (have := hrl (by assumption); simp [outNum, outRaw, numB_len, numK] <;> omega))) rfl rfl fun w21 => ?_
          have := outNum_len (outNum (outText o c13.key) c13.kind 1) (IntKind.wrap .u64 c13.num) 8
          refine ef (storeA tbv8ok rfl rfl rfl rfl rfl rfl rfl rfl rfl rfl ?_)
          refine go tbv8ok 8 rfl rfl ⟨(by omega), trivial⟩ ?_
          refine next ⟨(k + 1), (outNum (outNum (outText o c13.key) c13.kind 1) (IntKind.wrap .u64 c13.num) 8)⟩ rfl rfl ⟨rfl, trivial⟩ ⟨rfl, trivial⟩ ?_ ?_
          · simp only []; omega
          · have e : (outNum (outNum (outText o c13.key) c13.kind 1) (IntKind.wrap .u64 c13.num) 8) = pairOut o c13 := by unfold pairOut; first | (rw [if_pos (by omega)]; done) | (rw [if_neg (by omega), if_pos (by omega)]; done) | (rw [if_neg (by omega), if_neg (by omega), if_pos (by omega)]; done) | (rw [if_neg (by omega), if_neg (by omega), if_neg (by omega)]; done)
            simp only []
            rw [e]
            have hlo := pairOut_len (o := o) (hok.2 c13 (List.mem_of_getElem? hc14))
            refine ⟨by omega, ?_, by omega⟩
            rw [hk2, dropE hc14, List.foldl_cons]
        · have p22 := df h19
          refine go tbv8ok 6 rfl rfl trivial ?_
          refine cnd rfl (fun h23 => ?_) (fun h23 => ?_)
          · have p24 := dt h23
            refine go tbv8ok 4 rfl rfl trivial ?_
            refine call (out_Text _ _ (by first | omega | (have := hrl (by assumption); omega) | (simp [outNum, outRaw, numB_len, numK] <;> omega) | (have := hrl (by assumption); simp [outNum, outRaw, numB_len, numK] <;> omega))) rfl rfl fun w25 => ?_
            have := outText_len (outNum (outText o c13.key) c13.kind 1) c13.text
            refine ef (storeA tbv8ok rfl rfl rfl rfl rfl rfl rfl rfl rfl rfl ?_)
            refine go tbv8ok 8 rfl rfl ⟨(by omega), trivial⟩ ?_
            refine next ⟨(k + 1), (outText (outNum (outText o c13.key) c13.kind 1) c13.text)⟩ rfl rfl ⟨rfl, trivial⟩ ⟨rfl, trivial⟩ ?_ ?_
            · simp only []; omega
            · have e : (outText (outNum (outText o c13.key) c13.kind 1) c13.text) = pairOut o c13 := by unfold pairOut; first | (rw [if_pos (by omega)]; done) | (rw [if_neg (by omega), if_pos (by omega)]; done) | (rw [if_neg (by omega), if_neg (by omega), if_pos (by omega)]; done) | (rw [if_neg (by omega), if_neg (by omega), if_neg (by omega)]; done)
              simp only []
              rw [e]
              have hlo := pairOut_len (o := o) (hok.2 c13 (List.mem_of_getElem? hc14))
              refine ⟨by omega, ?_, by omega⟩
              rw [hk2, dropE hc14, List.foldl_cons]
          · have p26 := df h23
            refine go tbv8ok 6 rfl rfl trivial ?_
            refine cnd rfl (fun h27 => ?_) (fun h27 => ?_)
            · have p28 := dt h27
              refine go tbv8ok 5 rfl rfl trivial ?_
              refine call (out_Num _ _ _ (by first | omega | (have := hrl (by assumption); omega) | (simp [outNum, outRaw, numB_len, numK] <;> omega) | (have := hrl (by assumption); simp [outNum, outRaw, numB_len, numK] <;> omega))) rfl rfl fun w29 => ?_
              have := outNum_len (outNum (outText o c13.key) c13.kind 1) (IntKind.wrap .u64 c13.num) 1
              refine ef (storeA tbv8ok rfl rfl rfl rfl rfl rfl rfl rfl rfl rfl ?_)
              refine go tbv8ok 8 rfl rfl ⟨(by omega), trivial⟩ ?_
              refine next ⟨(k + 1), (outNum (outNum (outText o c13.key) c13.kind 1) (IntKind.wrap .u64 c13.num) 1)⟩ rfl rfl ⟨rfl, trivial⟩ ⟨rfl, trivial⟩ ?_ ?_
              · simp only []; omega
              · have e : (outNum (outNum (outText o c13.key) c13.kind 1) (IntKind.wrap .u64 c13.num) 1) = pairOut o c13 := by unfold pairOut; first | (rw [if_pos (by omega)]; done) | (rw [if_neg (by omega), if_pos (by omega)]; done) | (rw [if_neg (by omega), if_neg (by omega), if_pos (by omega)]; done) | (rw [if_neg (by omega), if_neg (by omega), if_neg (by omega)]; done)
                simp only []
                rw [e]
                have hlo := pairOut_len (o := o) (hok.2 c13 (List.mem_of_getElem? hc14))
                refine ⟨by omega, ?_, by omega⟩
                rw [hk2, dropE hc14, List.foldl_cons]
            · have p30 := df h27
              refine go tbv8ok 8 rfl rfl ⟨(by omega), trivial⟩ ?_
              refine next ⟨(k + 1), (outNum (outText o c13.key) c13.kind 1)⟩ rfl rfl ⟨rfl, trivial⟩ ⟨rfl, trivial⟩ ?_ ?_
              · simp only []; omega
              · have e : (outNum (outText o c13.key) c13.kind 1) = pairOut o c13 := by unfold pairOut; first | (rw [if_pos (by omega)]; done) | (rw [if_neg (by omega), if_pos (by omega)]; done) | (rw [if_neg (by omega), if_neg (by omega), if_pos (by omega)]; done) | (rw [if_neg (by omega), if_neg (by omega), if_neg (by omega)]; done)
                simp only []
                rw [e]
                have hlo := pairOut_len (o := o) (hok.2 c13 (List.mem_of_getElem? hc14))
                refine ⟨by omega, ?_, by omega⟩
                rw [hk2, dropE hc14, List.foldl_cons]
      · have p31 := df h11
        refine go tbv8ok 8 rfl rfl trivial ?_
        refine call (out_String _) rfl rfl fun w32 => ?_
        refine go tbv8ok 5 rfl rfl trivial ?_
        refine rt2 rfl rfl ?_
        refine ple ?_
        unfold headBytes
        rw [if_pos (by assumption)]
        rw [List.drop_of_length_le (by omega), List.foldl_nil] at hk2
        rw [show headOut h = o from hk2]
        have e0 : headE h = 0 := by assumption
        rw [e0]
theorem head_one (i : In) : Fm Tryz.prog gb 103 [] 126 (In.pc i) (.agg (Pair.pc (((readOne i)).1))) (In.pc (((readOne i)).2)) := by
  refine fm_cw tbv8ok Tryz.func103 rfl Tryz.ntmps103 rfl cb103 rfl rfl rfl rfl fun w wp b N H hG => ?_
  refine go tbv8ok 2 rfl rfl trivial ?_
  refine ef (alloc tbv8ok 1 rfl rfl rfl rfl fun b1 => ?_)
  refine go tbv8ok 5 rfl rfl trivial ?_
  refine ef (ecallm (in_Text _ _) rfl rfl rfl rfl rfl fun w2 w2p => ?_)
  have := inText_len i 16
  generalize hg4 : inText i 16 = g3 at *
  refine go tbv8ok 1 rfl rfl trivial ?_
  refine ef (ecallm (in_Num _ _) rfl rfl rfl rfl rfl fun w5 w5p => ?_)
  have := inNum_r ((g3).2) 1
  generalize hg7 : inNum ((g3).2) 1 = g6 at *
  refine q1 (qconv tbv8ok rfl rfl rfl rfl (rg_u8 (by omega))) rfl fun w8 => ?_
  refine go tbv8ok 1 rfl rfl trivial ?_
  refine ef (alloc tbv8ok 2 rfl rfl rfl rfl fun b9 => ?_)
  refine ef (storeA tbv8ok rfl rfl rfl rfl rfl rfl rfl rfl rfl rfl ?_)
  refine go tbv8ok 16 rfl rfl trivial ?_
  refine cnd rfl (fun h10 => ?_) (fun h10 => ?_)
  · have p11 := dt h10
    refine go tbv8ok 2 rfl rfl trivial ?_
    refine ef (ecallm (in_Num _ _) rfl rfl rfl rfl rfl fun w12 w12p => ?_)
    have := inNum_r ((g6).2) 8
    generalize hg14 : inNum ((g6).2) 8 = g13 at *
    refine go tbv8ok 2 rfl rfl trivial ?_
    refine ef (store1 tbv8ok rfl rfl rfl rfl rfl rfl rfl rfl rfl ?_)
    refine go tbv8ok 6 rfl rfl trivial ?_
    refine ef (storeA tbv8ok rfl rfl rfl rfl rfl rfl rfl rfl rfl rfl ?_)
    refine go tbv8ok 3 rfl rfl trivial ?_
    refine rm1 rfl rfl ?_ rfl rfl rfl ?_
    have e : readOne i = ((⟨(g3).1, (g6).1, (IntKind.wrap .i64 ((g13).1)), []⟩ : Pair), ((g13).2)) := by unfold readOne; simp only; (repeat first | simp only [hg4, hg7, hg14] | rw [if_pos (by omega)] | rw [if_neg (by omega)]); all_goals first | rfl | (rw [wrap_i64s (by omega) (by omega)]; done) | (simp [*]; done) | (rw [wrap_i64s (by omega) (by omega)]; simp [*]; done)
    · exact ple (by first | (rw [e]; done) | (rw [e]; rfl))
    have e : readOne i = ((⟨(g3).1, (g6).1, (IntKind.wrap .i64 ((g13).1)), []⟩ : Pair), ((g13).2)) := by unfold readOne; simp only; (repeat first | simp only [hg4, hg7, hg14] | rw [if_pos (by omega)] | rw [if_neg (by omega)]); all_goals first | rfl | (rw [wrap_i64s (by omega) (by omega)]; done) | (simp [*]; done) | (rw [wrap_i64s (by omega) (by omega)]; simp [*]; done)
    exact ples (by first | (rw [e]; done) | (rw [e]; rfl))
  · have p15 := df h10
    refine go tbv8ok 6 rfl rfl trivial ?_
    refine cnd rfl (fun h16 => ?_) (fun h16 => ?_)
    · have p17 := dt h16
      refine go tbv8ok 2 rfl rfl trivial ?_
      refine ef (ecallm (in_Text _ _) rfl rfl rfl rfl rfl fun w18 w18p => ?_)
      have := inText_len ((g6).2) 64
      generalize hg20 : inText ((g6).2) 64 = g19 at *
      refine go tbv8ok 1 rfl rfl trivial ?_
      refine ef (store1 tbv8ok rfl rfl rfl rfl rfl rfl rfl rfl rfl ?_)
      refine go tbv8ok 6 rfl rfl trivial ?_
      refine ef (storeA tbv8ok rfl rfl rfl rfl rfl rfl rfl rfl rfl rfl ?_)
      refine go tbv8ok 3 rfl rfl trivial ?_
      refine rm1 rfl rfl ?_ rfl rfl rfl ?_
      have e : readOne i = ((⟨(g3).1, (g6).1, 0, (g19).1⟩ : Pair), ((g19).2)) := by unfold readOne; simp only; (repeat first | simp only [hg4, hg7, hg20] | rw [if_pos (by omega)] | rw [if_neg (by omega)]); all_goals first | rfl | (rw [wrap_i64s (by omega) (by omega)]; done) | (simp [*]; done) | (rw [wrap_i64s (by omega) (by omega)]; simp [*]; done)
      · exact ple (by first | (rw [e]; done) | (rw [e]; rfl))
      have e : readOne i = ((⟨(g3).1, (g6).1, 0, (g19).1⟩ : Pair), ((g19).2)) := by unfold readOne; simp only; (repeat first | simp only [hg4, hg7, hg20] | rw [if_pos (by omega)] | rw [if_neg (by omega)]); all_goals first | rfl | (rw [wrap_i64s (by omega) (by omega)]; done) | (simp [*]; done) | (rw [wrap_i64s (by omega) (by omega)]; simp [*]; done)
      exact ples (by first | (rw [e]; done) | (rw [e]; rfl))
    · have p21 := df h16
      refine go tbv8ok 6 rfl rfl trivial ?_
      refine cnd rfl (fun h22 => ?_) (fun h22 => ?_)
      · have p23 := dt h22
        refine go tbv8ok 2 rfl rfl trivial ?_
        refine ef (ecallm (in_Num _ _) rfl rfl rfl rfl rfl fun w24 w24p => ?_)
        have := inNum_r ((g6).2) 1
        generalize hg26 : inNum ((g6).2) 1 = g25 at *
        refine q1 (qconv tbv8ok rfl rfl rfl rfl (rg_i64 (by omega))) rfl fun w27 => ?_
        refine go tbv8ok 1 rfl rfl trivial ?_
        refine ef (store1 tbv8ok rfl rfl rfl rfl rfl rfl rfl rfl rfl ?_)
        refine go tbv8ok 6 rfl rfl trivial ?_
        refine ef (storeA tbv8ok rfl rfl rfl rfl rfl rfl rfl rfl rfl rfl ?_)
        refine go tbv8ok 3 rfl rfl trivial ?_
        refine rm1 rfl rfl ?_ rfl rfl rfl ?_
        have e : readOne i = ((⟨(g3).1, (g6).1, (g25).1, []⟩ : Pair), ((g25).2)) := by unfold readOne; simp only; (repeat first | simp only [hg4, hg7, hg26] | rw [if_pos (by omega)] | rw [if_neg (by omega)]); all_goals first | rfl | (rw [wrap_i64s (by omega) (by omega)]; done) | (simp [*]; done) | (rw [wrap_i64s (by omega) (by omega)]; simp [*]; done)
        · exact ple (by first | (rw [e]; done) | (rw [e]; rfl))
        have e : readOne i = ((⟨(g3).1, (g6).1, (g25).1, []⟩ : Pair), ((g25).2)) := by unfold readOne; simp only; (repeat first | simp only [hg4, hg7, hg26] | rw [if_pos (by omega)] | rw [if_neg (by omega)]); all_goals first | rfl | (rw [wrap_i64s (by omega) (by omega)]; done) | (simp [*]; done) | (rw [wrap_i64s (by omega) (by omega)]; simp [*]; done)
        exact ples (by first | (rw [e]; done) | (rw [e]; rfl))
      · have p28 := df h22
        refine go tbv8ok 2 rfl rfl trivial ?_
        refine ef (ecallm (in_Fail _ _) rfl rfl rfl rfl rfl fun w29 w29p => ?_)
        refine go tbv8ok 6 rfl rfl trivial ?_
        refine ef (storeA tbv8ok rfl rfl rfl rfl rfl rfl rfl rfl rfl rfl ?_)
        refine go tbv8ok 3 rfl rfl trivial ?_
        refine rm1 rfl rfl ?_ rfl rfl rfl ?_
        have e : readOne i = ((⟨(g3).1, (g6).1, 0, []⟩ : Pair), (inFail ((g6).2) 8)) := by unfold readOne; simp only; (repeat first | simp only [hg4, hg7] | rw [if_pos (by omega)] | rw [if_neg (by omega)]); all_goals first | rfl | (rw [wrap_i64s (by omega) (by omega)]; done) | (simp [*]; done) | (rw [wrap_i64s (by omega) (by omega)]; simp [*]; done)
        · exact ple (by first | (rw [e]; done) | (rw [e]; rfl))
        have e : readOne i = ((⟨(g3).1, (g6).1, 0, []⟩ : Pair), (inFail ((g6).2) 8)) := by unfold readOne; simp only; (repeat first | simp only [hg4, hg7] | rw [if_pos (by omega)] | rw [if_neg (by omega)]); all_goals first | rfl | (rw [wrap_i64s (by omega) (by omega)]; done) | (simp [*]; done) | (rw [wrap_i64s (by omega) (by omega)]; simp [*]; done)
        exact ples (by first | (rw [e]; done) | (rw [e]; rfl))
theorem head_Read (i : In) : Fm Tryz.prog gb 83 [] 126 (In.pc i) (.sl Pair.pc (((headRead i)).1)) (In.pc (((headRead i)).2)) := by
  refine fm_cw tbv8ok Tryz.func83 rfl Tryz.ntmps83 rfl cb83 rfl rfl rfl rfl fun w wp b N H hG => ?_
  refine go tbv8ok 8 rfl rfl trivial ?_
  refine ef (ecallm (in_Num _ _) rfl rfl rfl rfl rfl fun w1 w1p => ?_)
  have := inNum_r i 1
  generalize hg3 : inNum i 1 = g2 at *
  refine q1 (qconv tbv8ok rfl rfl rfl rfl (rg_i64 (by omega))) rfl fun w4 => ?_
  refine go tbv8ok 10 rfl rfl trivial ?_
  refine cnd rfl (fun h5 => ?_) (fun h5 => ?_)
  · have p6 := dt h5
    refine go tbv8ok 2 rfl rfl trivial ?_
    refine ef (ecallm (in_Fail _ _) rfl rfl rfl rfl rfl fun w7 w7p => ?_)
    refine go tbv8ok 15 rfl rfl trivial ?_
    refine sw_own (t := 4) (k := 4) (e := 118) 1 Pair.pc rfl rfl ?_
    refine loop (ι := Nat × (List Pair) × Value × In) [0, 3, 6, 7, 8, 9, 10, 11, 13] [] (fun ⟨k, h, u_h, j⟩ => [(4, .osl 1), (14, .int .i64 (k : Int))]) (fun ⟨k, h, u_h, j⟩ => [(1, .arr u_h 4 118 Pair.pc h), (0, .box b 126 [.str j.s, .int .i64 j.err])]) (fun ⟨k, h, u_h, j⟩ => k ≤ ((g2).1).toNat ∧ headRead i = readGo (((g2).1).toNat - k) j h ∧ h.length ≤ k) (fun ⟨k, h, u_h, j⟩ => ((g2).1).toNat - k) ⟨0, [], (.slice none 0 0), (inFail ((g2).2) 6)⟩ ⟨rfl, rfl, trivial⟩ ⟨rfl, rfl, trivial⟩ ?_ ?_
    · exact ⟨Nat.zero_le _, by unfold headRead; (repeat first | simp only [hg3] | rw [if_pos (by omega)] | rw [if_neg (by omega)]); all_goals rfl, Nat.zero_le _⟩
    · rintro ⟨k, h, u_h, j⟩ hp8
      obtain ⟨hk1, hk2, hk3⟩ := hp8
      refine go tbv8ok 6 rfl rfl trivial ?_
      refine cnd rfl (fun h9 => ?_) (fun h9 => ?_)
      · have p10 := dt h9
        refine go tbv8ok 7 rfl rfl trivial ?_
        refine ef (ecallm (head_one _) rfl rfl rfl rfl rfl fun w11 w11p => ?_)
        generalize hg13 : readOne j = g12 at *
        refine ef (alloc tbv8ok 2 rfl rfl rfl rfl fun b14 => ?_)
        refine ef (storeA tbv8ok rfl rfl rfl rfl rfl rfl rfl rfl rfl rfl ?_)
        refine go tbv8ok 6 rfl rfl trivial ?_
        refine ef (ecallm (in_Err _) rfl rfl rfl rfl rfl fun w15 w15p => ?_)
        refine go tbv8ok 3 rfl rfl trivial ?_
        refine cnd rfl (fun h16 => ?_) (fun h16 => ?_)
        · have p17 := dt h16
          refine go tbv8ok 4 rfl rfl trivial ?_
          refine ef (calll 1 rfl (head_pair _ _) rfl rfl rfl fun w18 => ?_)
          have := pairErr_r ((g12).1) h
          generalize hg20 : pairErr ((g12).1) h = g19 at *
          refine ef (ecallm (in_Fail _ _) rfl rfl rfl rfl rfl fun w21 w21p => ?_)
          refine go tbv8ok 6 rfl rfl trivial ?_
          refine ef (ecallm (in_Err _) rfl rfl rfl rfl rfl fun w22 w22p => ?_)
          refine go tbv8ok 3 rfl rfl trivial ?_
          refine cnd rfl (fun h23 => ?_) (fun h23 => ?_)
          · have h24 := not_t h23
            have p25 := df h24
            refine go tbv8ok 12 rfl rfl trivial ?_
            refine rm1 rfl rfl ?_ rfl rfl rfl ?_
            · have e : headRead i = ([], (inFail ((g12).2) g19)) := by
                rw [hk2, show ((g2).1).toNat - k = (((g2).1).toNat - (k + 1)) + 1 by omega]
                have z := fun k => readGo_er1 (k := k) (h := h) (show readOne j = (g12.1, g12.2) from hg13) (by omega) (by rw [hg20]; omega)
                rw [hg20] at z
                exact z _
              exact ple_nilx (by rw [e])
            have e : headRead i = ([], (inFail ((g12).2) g19)) := by
              rw [hk2, show ((g2).1).toNat - k = (((g2).1).toNat - (k + 1)) + 1 by omega]
              have z := fun k => readGo_er1 (k := k) (h := h) (show readOne j = (g12.1, g12.2) from hg13) (by omega) (by rw [hg20]; omega)
              rw [hg20] at z
              exact z _
            exact ples (by first | (rw [e]; done) | (rw [e]; rfl))
          · have h26 := not_f h23
            have p27 := dt h26
            refine go tbv8ok 5 rfl rfl trivial ?_
            refine ef (bsl 3 Pair.pc [((g12).1)] tbv8ok rfl rfl rfl rfl rfl (fun _ => rfl) rfl (by decide) (by decide) rfl fun u28 => ?_)
            refine ef (app tbv8ok [((g12).1)] rfl rfl rfl rfl rfl rfl rfl rfl rfl (src_o rfl rfl) (by first | omega | (simp; omega)) rfl fun u29 => ?_)
            refine go tbv8ok 8 rfl rfl ⟨(by omega), trivial⟩ ?_
            refine next ⟨(k + 1), (h ++ [((g12).1)]), (u29), (inFail ((g12).2) g19)⟩ rfl rfl ⟨rfl, rfl, trivial⟩ ⟨rfl, rfl, trivial⟩ ?_ ?_
            · simp only []; omega
            · refine ⟨by omega, ?_, by simp; omega⟩
              rw [hk2, show ((g2).1).toNat - k = (((g2).1).toNat - (k + 1)) + 1 by omega]
              have z := fun k => readGo_ok (k := k) (h := h) (show readOne j = (g12.1, g12.2) from hg13) (by omega) (by rw [hg20]; omega)
              rw [hg20] at z
              exact z _
        · have p30 := df h16
          refine go tbv8ok 6 rfl rfl trivial ?_
          refine ef (ecallm (in_Err _) rfl rfl rfl rfl rfl fun w31 w31p => ?_)
          refine go tbv8ok 3 rfl rfl trivial ?_
          refine cndT rfl (by rw [h16] <;> rfl) ?_
          refine go tbv8ok 12 rfl rfl trivial ?_
          refine rm1 rfl rfl ?_ rfl rfl rfl ?_
          · have e : headRead i = ([], ((g12).2)) := by
              rw [hk2, show ((g2).1).toNat - k = (((g2).1).toNat - (k + 1)) + 1 by omega]
              exact readGo_er0 (show readOne j = (g12.1, g12.2) from hg13) (by omega)
            exact ple_nilx (by rw [e])
          have e : headRead i = ([], ((g12).2)) := by
            rw [hk2, show ((g2).1).toNat - k = (((g2).1).toNat - (k + 1)) + 1 by omega]
            exact readGo_er0 (show readOne j = (g12.1, g12.2) from hg13) (by omega)
          exact ples (by first | (rw [e]; done) | (rw [e]; rfl))
      · have p32 := df h9
        refine go tbv8ok 11 rfl rfl trivial ?_
        refine givec 1 rfl ?_
        refine go tbv8ok 1 rfl rfl trivial ?_
        refine rm1 rfl rfl ?_ rfl rfl rfl ?_
        · have e : headRead i = (h, j) := by
            rw [hk2, show ((g2).1).toNat - k = 0 by omega]
            rfl
          exact ple (by rw [e])
        have e : headRead i = (h, j) := by
          rw [hk2, show ((g2).1).toNat - k = 0 by omega]
          rfl
        exact ples (by first | (rw [e]; done) | (rw [e]; rfl))
  · have p33 := df h5
    refine go tbv8ok 15 rfl rfl trivial ?_
    refine sw_own (t := 4) (k := 4) (e := 118) 1 Pair.pc rfl rfl ?_
    refine loop (ι := Nat × (List Pair) × Value × In) [0, 3, 6, 7, 8, 9, 10, 13] [] (fun ⟨k, h, u_h, j⟩ => [(4, .osl 1), (14, .int .i64 (k : Int))]) (fun ⟨k, h, u_h, j⟩ => [(1, .arr u_h 4 118 Pair.pc h), (0, .box b 126 [.str j.s, .int .i64 j.err])]) (fun ⟨k, h, u_h, j⟩ => k ≤ ((g2).1).toNat ∧ headRead i = readGo (((g2).1).toNat - k) j h ∧ h.length ≤ k) (fun ⟨k, h, u_h, j⟩ => ((g2).1).toNat - k) ⟨0, [], (.slice none 0 0), ((g2).2)⟩ ⟨rfl, rfl, trivial⟩ ⟨rfl, rfl, trivial⟩ ?_ ?_
    · exact ⟨Nat.zero_le _, by unfold headRead; (repeat first | simp only [hg3] | rw [if_pos (by omega)] | rw [if_neg (by omega)]); all_goals rfl, Nat.zero_le _⟩
    · rintro ⟨k, h, u_h, j⟩ hp34
      obtain ⟨hk1, hk2, hk3⟩ := hp34
      refine go tbv8ok 6 rfl rfl trivial ?_
      refine cnd rfl (fun h35 => ?_) (fun h35 => ?_)
      · have p36 := dt h35
        refine go tbv8ok 7 rfl rfl trivial ?_
        refine ef (ecallm (head_one _) rfl rfl rfl rfl rfl fun w37 w37p => ?_)
        generalize hg39 : readOne j = g38 at *
        refine ef (alloc tbv8ok 2 rfl rfl rfl rfl fun b40 => ?_)
        refine ef (storeA tbv8ok rfl rfl rfl rfl rfl rfl rfl rfl rfl rfl ?_)
        refine go tbv8ok 6 rfl rfl trivial ?_
        refine ef (ecallm (in_Err _) rfl rfl rfl rfl rfl fun w41 w41p => ?_)
        refine go tbv8ok 3 rfl rfl trivial ?_
        refine cnd rfl (fun h42 => ?_) (fun h42 => ?_)
        · have p43 := dt h42
          refine go tbv8ok 4 rfl rfl trivial ?_
          refine ef (calll 1 rfl (head_pair _ _) rfl rfl rfl fun w44 => ?_)
          have := pairErr_r ((g38).1) h
          generalize hg46 : pairErr ((g38).1) h = g45 at *
          refine ef (ecallm (in_Fail _ _) rfl rfl rfl rfl rfl fun w47 w47p => ?_)
          refine go tbv8ok 6 rfl rfl trivial ?_
          refine ef (ecallm (in_Err _) rfl rfl rfl rfl rfl fun w48 w48p => ?_)
          refine go tbv8ok 3 rfl rfl trivial ?_
          refine cnd rfl (fun h49 => ?_) (fun h49 => ?_)
          · have h50 := not_t h49
            have p51 := df h50
            refine go tbv8ok 12 rfl rfl trivial ?_
            refine rm1 rfl rfl ?_ rfl rfl rfl ?_
            · have e : headRead i = ([], (inFail ((g38).2) g45)) := by
                rw [hk2, show ((g2).1).toNat - k = (((g2).1).toNat - (k + 1)) + 1 by omega]
                have z := fun k => readGo_er1 (k := k) (h := h) (show readOne j = (g38.1, g38.2) from hg39) (by omega) (by rw [hg46]; omega)
                rw [hg46] at z
                exact z _
              exact ple_nilx (by rw [e])
            have e : headRead i = ([], (inFail ((g38).2) g45)) := by
              rw [hk2, show ((g2).1).toNat - k = (((g2).1).toNat - (k + 1)) + 1 by omega]
              have z := fun k => readGo_er1 (k := k) (h := h) (show readOne j = (g38.1, g38.2) from hg39) (by omega) (by rw [hg46]; omega)
              rw [hg46] at z
              exact z _
            exact ples (by first | (rw [e]; done) | (rw [e]; rfl))
          · have h52 := not_f h49
            have p53 := dt h52
            refine go tbv8ok 5 rfl rfl trivial ?_
            refine ef (bsl 3 Pair.pc [((g38).1)] tbv8ok rfl rfl rfl rfl rfl (fun _ => rfl) rfl (by decide) (by decide) rfl fun u54 => ?_)
            refine ef (app tbv8ok [((g38).1)] rfl rfl rfl rfl rfl rfl rfl rfl rfl (src_o rfl rfl) (by first | omega | (simp; omega)) rfl fun u55 => ?_)
            refine go tbv8ok 8 rfl rfl ⟨(by omega), trivial⟩ ?_
            refine next ⟨(k + 1), (h ++ [((g38).1)]), (u55), (inFail ((g38).2) g45)⟩ rfl rfl ⟨rfl, rfl, trivial⟩ ⟨rfl, rfl, trivial⟩ ?_ ?_
            · simp only []; omega
            · refine ⟨by omega, ?_, by simp; omega⟩
              rw [hk2, show ((g2).1).toNat - k = (((g2).1).toNat - (k + 1)) + 1 by omega]
              have z := fun k => readGo_ok (k := k) (h := h) (show readOne j = (g38.1, g38.2) from hg39) (by omega) (by rw [hg46]; omega)
              rw [hg46] at z
              exact z _
        · have p56 := df h42
          refine go tbv8ok 6 rfl rfl trivial ?_
          refine ef (ecallm (in_Err _) rfl rfl rfl rfl rfl fun w57 w57p => ?_)
          refine go tbv8ok 3 rfl rfl trivial ?_
          refine cndT rfl (by rw [h42] <;> rfl) ?_
          refine go tbv8ok 12 rfl rfl trivial ?_
          refine rm1 rfl rfl ?_ rfl rfl rfl ?_
          · have e : headRead i = ([], ((g38).2)) := by
              rw [hk2, show ((g2).1).toNat - k = (((g2).1).toNat - (k + 1)) + 1 by omega]
              exact readGo_er0 (show readOne j = (g38.1, g38.2) from hg39) (by omega)
            exact ple_nilx (by rw [e])
          have e : headRead i = ([], ((g38).2)) := by
            rw [hk2, show ((g2).1).toNat - k = (((g2).1).toNat - (k + 1)) + 1 by omega]
            exact readGo_er0 (show readOne j = (g38.1, g38.2) from hg39) (by omega)
          exact ples (by first | (rw [e]; done) | (rw [e]; rfl))
      · have p58 := df h35
        refine go tbv8ok 11 rfl rfl trivial ?_
        refine givec 1 rfl ?_
        refine go tbv8ok 1 rfl rfl trivial ?_
        refine rm1 rfl rfl ?_ rfl rfl rfl ?_
        · have e : headRead i = (h, j) := by
            rw [hk2, show ((g2).1).toNat - k = 0 by omega]
            rfl
          exact ple (by rw [e])
        have e : headRead i = (h, j) := by
          rw [hk2, show ((g2).1).toNat - k = 0 by omega]
          rfl
        exact ples (by first | (rw [e]; done) | (rw [e]; rfl))
end Go.SW.V
set_option linter.unusedVariables false
set_option maxRecDepth 100000
set_option maxHeartbeats 4000000
namespace Go.SW.V
open Go.SW Go.Proofs
theorem cb24 : Callable Tryz.prog 24 := callable_of Tryz.func24 (by kernel_rfl) (by kernel_rfl)
theorem cb39 : Callable Tryz.prog 39 := callable_of Tryz.func39 (by kernel_rfl) (by kernel_rfl)
theorem cb76 : Callable Tryz.prog 76 := callable_of Tryz.func76 (by kernel_rfl) (by kernel_rfl)
theorem cb99 : Callable Tryz.prog 99 := callable_of Tryz.func99 (by kernel_rfl) (by kernel_rfl)
theorem eqg50 : Tryz.prog.eqGuardType Tryz.prog.depth 50 = false := by kernel_rfl
theorem sz122 : Sz Tryz.prog 122 1 := fun w => by kernel_rfl
theorem veq50 (p q : Frame) : ∀ (H : Hp) (vs us : List Value), Sims H (Frame.pc p) vs → Sims H (Frame.pc q) us → EqV Tryz.prog 10000 50 (.agg vs.toArray) (.agg us.toArray) (decide (p = q)) := by
  intro H vs us hv hu
  obtain ⟨_, _, rfl, v0, v_0⟩ := hv.inv_cons
  obtain ⟨_, _, rfl, v1, v_1⟩ := v_0.inv_cons
  obtain ⟨_, _, rfl, v2, v_2⟩ := v_1.inv_cons
  cases v_2.inv_nil
  cases v0.inv_int.1; cases v1.inv_int.1; cases v2.inv_str.1
  obtain ⟨_, _, rfl, u0, u_0⟩ := hu.inv_cons
  obtain ⟨_, _, rfl, u1, u_1⟩ := u_0.inv_cons
  obtain ⟨_, _, rfl, u2, u_2⟩ := u_1.inv_cons
  cases u_2.inv_nil
  cases u0.inv_int.1; cases u1.inv_int.1; cases u2.inv_str.1
  exact EqV.to (eqv_agg Tryz.underlying50 (by kernel_rfl) (eqf_1 (by decide) ag5 rfl rfl (eqv_int Tryz.underlying5) (eqf_1 (by decide) ag5 rfl rfl (eqv_int Tryz.underlying5) (eqf_1 (by decide) ag9 rfl rfl (eqv_str Tryz.underlying9) eqf_nil)))) (by obtain ⟨a0, a1, a2⟩ := p; obtain ⟨b0, b1, b2⟩ := q; rw [Bool.eq_iff_iff]; simp)
def tbv10 : Tb := [(5, ⟨.int .u8, 1, 1, [.int .u8 0]⟩),
  (9, ⟨.str, 1, 16, [.str []]⟩),
  (25, ⟨.int .u64, 1, 8, [.int .u64 0]⟩),
  (50, ⟨.agg [(0, 1), (1, 1), (2, 1)], 3, 24, [.int .u8 0, .int .u8 0, .str []]⟩),
  (109, ⟨.agg [(0, 1), (1, 1)], 2, 24, [.str [], .int .i64 0]⟩),
  (119, ⟨.slc 9, 1, 24, [.sl strc []]⟩),
  (122, ⟨.int .u32, 1, 4, [.int .u32 0]⟩)]
theorem tbv10ok : tbB Tryz.prog tbv10 = true := by kernel_rfl
theorem crc_Step (r : Int) (b : Int) : Fn Tryz.prog gb 99 [.int .u32 r, .int .u8 b] (.int .u32 (crcStep r b)) := by
  refine fn_cw tbv10ok Tryz.func99 rfl Tryz.ntmps99 rfl cb99 rfl rfl fun w N H hG => ?_
  have r_r : 0 ≤ r ∧ r ≤ 4294967295 := w.1
  have b_r : 0 ≤ b ∧ b ≤ 255 := w.2.1
  have := wr_u32 ((BitVec.ofInt (IntKind.bits .u32) r ^^^ BitVec.ofInt (IntKind.bits .u32) b).toNat)
  refine go tbv10ok 21 rfl rfl trivial ?_
  refine loop (ι := Nat × Int) [1, 4, 5, 6, 7, 8] [] (fun ⟨k, q⟩ => [(0, .int .u32 q), (9, .int .i64 (k : Int))]) (fun ⟨k, q⟩ => []) (fun ⟨k, q⟩ => k ≤ 2 ∧ crcIt (2 - k) q = crcStep r b) (fun ⟨k, q⟩ => 2 - k) ⟨0, (xor32 r b)⟩ ⟨rfl, rfl, trivial⟩ trivial ?_ ?_
  · exact ⟨Nat.zero_le _, rfl⟩
  · rintro ⟨k, q⟩ hp1
    obtain ⟨hk1, hk2⟩ := hp1
    refine go tbv10ok 6 rfl rfl trivial ?_
    refine cnd rfl (fun h2 => ?_) (fun h2 => ?_)
    · have p3 := dt h2
      have := wr_u32 ((BitVec.ofInt (IntKind.bits .u32) q &&& BitVec.ofInt (IntKind.bits .u32) 15).toNat)
      refine go tbv10ok 9 rfl rfl ⟨(by omega), trivial⟩ ?_
      refine q1 (qgtab (m := ((IntKind.wrap .u32 ((BitVec.ofInt (IntKind.bits .u32) q &&& BitVec.ofInt (IntKind.bits .u32) 15).toNat))).toNat) laidT (by decide) (fun _ h => gbCrc h) rfl Tryz.underlying148 sz122 (by omega) (and15_lt _) rfl) rfl fun w4 => ?_
      have := wr_u32 ((BitVec.ofInt (IntKind.bits .u32) (Int.fdiv q (2 ^ (min (4 : Int).toNat (IntKind.bits .u32)))) ^^^ BitVec.ofInt (IntKind.bits .u32) (laidT.getD ((IntKind.wrap .u32 ((BitVec.ofInt (IntKind.bits .u32) q &&& BitVec.ofInt (IntKind.bits .u32) 15).toNat))).toNat 0)).toNat)
      refine go tbv10ok 10 rfl rfl ⟨(by omega), trivial⟩ ?_
      refine next ⟨(k + 1), (crc1 q)⟩ rfl rfl ⟨rfl, rfl, trivial⟩ trivial ?_ ?_
      · (try simp only []); omega
      · try simp only []
        refine ⟨by omega, ?_⟩
        rw [← hk2, show 2 - k = (2 - (k + 1)) + 1 by omega]
        rfl
    · have p5 := df h2
      refine go tbv10ok 12 rfl rfl trivial ?_
      refine rt1 rfl rfl ?_
      refine ple ?_
      obtain rfl : k = 2 := by omega
      exact congrArg (PV.int .u32) hk2
theorem crc_Sum (parts : List Bs) : Fn Tryz.prog gb 76 [.sl strc parts] (.int .u32 (crcSum parts)) := by
  refine fn_cw tbv10ok Tryz.func76 rfl Tryz.ntmps76 rfl cb76 rfl rfl fun w N H hG => ?_
  have parts_l : parts.length ≤ 140737488355328 := w.1.1
  refine go tbv10ok 19 rfl rfl trivial ?_
  refine loop (ι := Nat × Int) [0, 2, 7, 8] [] (fun ⟨k, r⟩ => [(3, .int .u32 r), (9, .int .i64 (k : Int))]) (fun ⟨k, r⟩ => []) (fun ⟨k, r⟩ => k ≤ parts.length ∧ parts.foldl crcB 4294967295 = (parts.drop k).foldl crcB r ∧ 0 ≤ r ∧ r ≤ 4294967295) (fun ⟨k, r⟩ => parts.length - k) ⟨0, 4294967295⟩ ⟨rfl, rfl, trivial⟩ trivial ?_ ?_
  · exact ⟨Nat.zero_le _, rfl, by omega, by omega⟩
  · rintro ⟨k, r⟩ hp1
    obtain ⟨hk1, hk2, hk3, hk4⟩ := hp1
    refine go tbv10ok 6 rfl rfl trivial ?_
    refine cnd rfl (fun h2 => ?_) (fun h2 => ?_)
    · have p3 := dt h2
      obtain ⟨c4, hc5⟩ := getE (xs := parts) (m := k) (by omega)
      have c4_l : c4.length ≤ 9223372036854775807 := (w.1.2 c4 (List.mem_of_getElem? hc5)).1
      refine go tbv10ok 6 rfl rfl trivial ?_
      refine q1 (qidx tbv10ok k rfl rfl rfl hc5 rfl rfl rfl rfl) rfl fun w6 => ?_
      refine go tbv10ok 12 rfl rfl trivial ?_
      refine loop (ι := Nat × Int) [0, 2, 5, 7, 8, 9, 10, 11, 12, 13, 14] [] (fun ⟨j, q⟩ => [(3, .int .u32 q), (15, .int .i64 (j : Int))]) (fun ⟨j, q⟩ => []) (fun ⟨j, q⟩ => j ≤ c4.length ∧ c4.foldl (fun q c => crcStep q c.toNat) r = (c4.drop j).foldl (fun q c => crcStep q c.toNat) q ∧ 0 ≤ q ∧ q ≤ 4294967295) (fun ⟨j, q⟩ => c4.length - j) ⟨0, r⟩ ⟨rfl, rfl, trivial⟩ trivial ?_ ?_
      · exact ⟨Nat.zero_le _, rfl, by omega, by omega⟩
      · rintro ⟨j, q⟩ hp7
        obtain ⟨hj1, hj2, hj3, hj4⟩ := hp7
        refine go tbv10ok 6 rfl rfl trivial ?_
        refine cnd rfl (fun h8 => ?_) (fun h8 => ?_)
        · have p9 := dt h8
          have := u8r (c4.getD j 0)
          refine go tbv10ok 14 rfl rfl trivial ?_
          refine q1 (sidx tbv10ok j rfl rfl rfl rfl rfl (by omega)) rfl fun w10 => ?_
          refine call (crc_Step _ _) rfl rfl fun w11 => ?_
          have := crcStep_r q ((c4.getD j 0).toNat : Int)
          refine go tbv10ok 8 rfl rfl ⟨(by omega), trivial⟩ ?_
          refine next ⟨(j + 1), (crcStep q (c4.getD j 0).toNat)⟩ rfl rfl ⟨rfl, rfl, trivial⟩ trivial ?_ ?_
          · (try simp only []); omega
          · refine ⟨by omega, ?_, by omega, by omega⟩
            rw [hj2, drop_getD (k := j) (by omega), List.foldl_cons]
        · have p12 := df h8
          refine go tbv10ok 10 rfl rfl ⟨(by omega), trivial⟩ ?_
          refine next ⟨(k + 1), q⟩ rfl rfl ⟨rfl, rfl, trivial⟩ trivial ?_ ?_
          · (try simp only []); omega
          · refine ⟨by omega, ?_, by omega, by omega⟩
            rw [hk2, dropE hc5, List.foldl_cons]
            rw [List.drop_of_length_le (by omega), List.foldl_nil] at hj2
            rw [show crcB r c4 = q from hj2]
    · have p13 := df h2
      refine go tbv10ok 13 rfl rfl trivial ?_
      refine rt1 rfl rfl ?_
      refine ple ?_
      rw [List.drop_of_length_le (by omega), List.foldl_nil] at hk2
      unfold crcSum
      rw [hk2]
theorem frame_Bytes (f : Frame) : Fn Tryz.prog gb 39 [.agg (Frame.pc f)] (.tup [.str (frameBytes f), .int .i64 (frameErr f)]) := by
  refine fn_cw tbv10ok Tryz.func39 rfl Tryz.ntmps39 rfl cb39 rfl rfl fun w N H hG => ?_
  refine go tbv10ok 2 rfl rfl trivial ?_
  refine ef (boxA 0 rfl rfl rfl fun b1 => ?_)
  refine go tbv10ok 13 rfl rfl trivial ?_
  refine cnd rfl (fun h2 => ?_) (fun h2 => ?_)
  · have p3 := dt h2
    refine go tbv10ok 8 rfl rfl trivial ?_
    refine rt2 rfl rfl ?_
    refine ple ?_
    simp [frameBytes, frameErr, frameOut, *]
  · have p4 := df h2
    refine go tbv10ok 3 rfl rfl trivial ?_
    refine any [1, 2, 3, 4, 5, 6] 14 mixd rfl ?_
    refine gov tbv10ok [0, 1, 2, 3] 10 rfl (by kernel_rfl) rfl rfl trivial ?_
    refine vcall 4 rfl (by kernel_rfl) (out_Num (⟨[], 0⟩ : Out) _ _ (by first | omega | (have := hrl (by assumption); omega) | (simp [outNum, outRaw, numB_len, numK] <;> omega) | (have := hrl (by assumption); simp [outNum, outRaw, numB_len, numK] <;> omega))) rfl rfl fun w5 => ?_
    have nl0 : (⟨[], 0⟩ : Out).s.length = 0 := rfl
    have := outNum_len (⟨[], 0⟩ : Out) f.channel 1
    refine gov tbv10ok [5, 6, 7] 6 rfl (by kernel_rfl) rfl rfl trivial ?_
    refine vcall 8 rfl (by kernel_rfl) (out_Num _ _ _ (by first | omega | (have := hrl (by assumption); omega) | (simp [outNum, outRaw, numB_len, numK] <;> omega) | (have := hrl (by assumption); simp [outNum, outRaw, numB_len, numK] <;> omega))) rfl rfl fun w6 => ?_
    have := outNum_len (outNum (⟨[], 0⟩ : Out) f.channel 1) f.kind 1
    refine gov tbv10ok [9, 10] 3 rfl (by kernel_rfl) rfl rfl trivial ?_
    refine vcall 11 rfl (by kernel_rfl) (out_Text _ _ (by first | omega | (have := hrl (by assumption); omega) | (simp [outNum, outRaw, numB_len, numK] <;> omega) | (have := hrl (by assumption); simp [outNum, outRaw, numB_len, numK] <;> omega))) rfl rfl fun w7 => ?_
    have := outText_len (outNum (outNum (⟨[], 0⟩ : Out) f.channel 1) f.kind 1) f.body
    refine ve 12 rfl (by kernel_rfl) rfl (alloc tbv10ok 1 rfl rfl rfl rfl fun b8 => ?_)
    refine vt 13 rfl (by kernel_rfl) (by kernel_rfl) (storeA tbv10ok rfl rfl rfl rfl rfl rfl rfl rfl rfl rfl ?_)
    refine vdone (by kernel_rfl) ?_
    refine go tbv10ok 2 rfl rfl trivial ?_
    refine any [2, 3, 4, 5, 6, 7] 11 mixd rfl ?_
    refine gov tbv10ok [0, 1] 9 rfl (by kernel_rfl) rfl rfl trivial ?_
    refine vcall 2 rfl (by kernel_rfl) (out_String _) rfl rfl fun w9 => ?_
    refine ve 3 rfl (by kernel_rfl) rfl (bsl 2 strc [(outText (outNum (outNum (⟨[], 0⟩ : Out) f.channel 1) f.kind 1) f.body).s] tbv10ok rfl rfl rfl rfl rfl (fun _ => rfl) rfl (by decide) (by decide) rfl fun u10 => ?_)
    refine ve 4 rfl (by kernel_rfl) rfl (calll 2 rfl (crc_Sum _) rfl rfl rfl fun w11 => ?_)
    have := crcSum_r [(outText (outNum (outNum (⟨[], 0⟩ : Out) f.channel 1) f.kind 1) f.body).s]
    refine gov tbv10ok [5] 5 rfl (by kernel_rfl) rfl rfl trivial ?_
    refine vcall 6 rfl (by kernel_rfl) (out_Num _ _ _ (by first | omega | (have := hrl (by assumption); omega) | (simp [outNum, outRaw, numB_len, numK] <;> omega) | (have := hrl (by assumption); simp [outNum, outRaw, numB_len, numK] <;> omega))) rfl rfl fun w12 => ?_
    have := outNum_len (outText (outNum (outNum (⟨[], 0⟩ : Out) f.channel 1) f.kind 1) f.body) (crcSum [(outText (outNum (outNum (⟨[], 0⟩ : Out) f.channel 1) f.kind 1) f.body).s]) 4
    refine vcall 7 rfl (by kernel_rfl) (out_Num _ _ _ (by first | omega | (have := hrl (by assumption); omega) | (simp [outNum, outRaw, numB_len, numK] <;> omega) | (have := hrl (by assumption); simp [outNum, outRaw, numB_len, numK] <;> omega))) rfl rfl fun w13 => ?_
    have := outNum_len (outNum (outText (outNum (outNum (⟨[], 0⟩ : Out) f.channel 1) f.kind 1) f.body) (crcSum [(outText (outNum (outNum (⟨[], 0⟩ : Out) f.channel 1) f.kind 1) f.body).s]) 4) 206 1
    refine vcall 8 rfl (by kernel_rfl) (out_String _) rfl rfl fun w14 => ?_
    refine gov tbv10ok [9, 10] 0 rfl (by kernel_rfl) rfl rfl trivial ?_
    refine vdone (by kernel_rfl) ?_
    refine go tbv10ok 2 rfl rfl trivial ?_
    refine rt2 rfl rfl ?_
    refine ple ?_
    simp [frameBytes, frameErr, frameOut, *]
theorem frame_Same (a : Frame) (b : Frame) : Fn Tryz.prog gb 24 [.agg (Frame.pc a), .agg (Frame.pc b)] (.bool (decide (a = b))) := by
  refine fn_cw tbv10ok Tryz.func24 rfl Tryz.ntmps24 rfl cb24 rfl rfl fun w N H hG => ?_
  refine go tbv10ok 2 rfl rfl trivial ?_
  refine ef (boxA 0 rfl rfl rfl fun b1 => ?_)
  refine ef (boxA 1 rfl rfl rfl fun b2 => ?_)
  refine go tbv10ok 7 rfl rfl trivial ?_
  refine q1 (saeq rfl rfl eqg50 (veq50 a b)) rfl fun w3 => ?_
  refine go tbv10ok 4 rfl rfl trivial ?_
  refine rt1 rfl rfl ?_
  refine ple ?_
  first | rfl | (simp [Frame.eq_iff, *]; done)
end Go.SW.V
set_option linter.unusedVariables false
set_option maxRecDepth 100000
set_option maxHeartbeats 4000000
namespace Go.SW.V
open Go.SW Go.Proofs
end Go.SW.V
set_option linter.unusedVariables false
set_option maxRecDepth 100000
set_option maxHeartbeats 4000000
namespace Go.SW.V
open Go.SW Go.Proofs
end Go.SW.V
set_option linter.unusedVariables false
set_option maxRecDepth 100000
set_option maxHeartbeats 4000000
namespace Go.SW.V
open Go.SW Go.Proofs
end Go.SW.V
set_option linter.unusedVariables false
set_option maxRecDepth 100000
set_option maxHeartbeats 4000000
namespace Go.SW.V
open Go.SW Go.Proofs
theorem cb36 : Callable Tryz.prog 36 := callable_of Tryz.func36 (by kernel_rfl) (by kernel_rfl)
theorem cb37 : Callable Tryz.prog 37 := callable_of Tryz.func37 (by kernel_rfl) (by kernel_rfl)
theorem cb74 : Callable Tryz.prog 74 := callable_of Tryz.func74 (by kernel_rfl) (by kernel_rfl)
def tbv18 : Tb := [(9, ⟨.str, 1, 16, [.str []]⟩),
  (119, ⟨.slc 9, 1, 24, [.sl strc []]⟩)]
theorem tbv18ok : tbB Tryz.prog tbv18 = true := by kernel_rfl
theorem r4_Name (s : Bs) : Fn Tryz.prog gb 36 [.str s] (.int .i64 (nameE s)) := by
  refine fn_cw tbv18ok Tryz.func36 rfl Tryz.ntmps36 rfl cb36 rfl rfl fun w N H hG => ?_
  have s_l : s.length ≤ 9223372036854775807 := w.1
  refine go tbv18ok 13 rfl rfl trivial ?_
  refine cnd rfl (fun h1 => ?_) (fun h1 => ?_)
  · have p2 := dt h1
    refine go tbv18ok 7 rfl rfl trivial ?_
    refine rt1 rfl rfl ?_
    refine ple ?_
    have : s = [] := List.eq_nil_of_length_eq_zero (by omega)
    subst this
    rfl
  · have p3 := df h1
    refine go tbv18ok 10 rfl rfl trivial ?_
    refine cnd rfl (fun h4 => ?_) (fun h4 => ?_)
    · have p5 := dt h4
      refine go tbv18ok 7 rfl rfl trivial ?_
      refine rt1 rfl rfl ?_
      refine ple ?_
      have hne : ¬ s = [] := fun q => by subst q; simp at *
      unfold nameE
      rw [if_neg hne, if_pos (by omega)]
    · have p6 := df h4
      refine go tbv18ok 9 rfl rfl trivial ?_
      refine loop (ι := Nat) [0, 4, 5, 6, 7, 8, 9] [] (fun k => [(3, .int .i64 (k : Int))]) (fun k => []) (fun k => k ≤ s.length ∧ (s.drop k).all (fun c => letter c.toNat) = plain s) (fun k => s.length - k) 0 ⟨rfl, trivial⟩ trivial ?_ ?_
      · exact ⟨by omega, rfl⟩
      · rintro k hp7
        obtain ⟨hk1, hk2⟩ := hp7
        refine go tbv18ok 9 rfl rfl trivial ?_
        refine cnd rfl (fun h8 => ?_) (fun h8 => ?_)
        · have p9 := dt h8
          have := u8r (s.getD k 0)
          refine go tbv18ok 8 rfl rfl trivial ?_
          refine q1 (sidx tbv18ok k rfl rfl rfl rfl rfl (by omega)) rfl fun w10 => ?_
          refine call (r4_letter _) rfl rfl fun w11 => ?_
          refine go tbv18ok 3 rfl rfl trivial ?_
          refine cnd rfl (fun h12 => ?_) (fun h12 => ?_)
          · have h13 := not_t h12
            refine go tbv18ok 11 rfl rfl trivial ?_
            refine rt1 rfl rfl ?_
            refine ple ?_
            have hne : ¬ s = [] := fun q => by subst q; simp at *
            unfold nameE
            rw [if_neg hne, if_neg (by omega), ← hk2, letter_all (k := k) (by omega)]
            simp only [*, Bool.false_and, Bool.false_eq_true, if_false]
          · have h14 := not_f h12
            refine go tbv18ok 8 rfl rfl ⟨(by omega), trivial⟩ ?_
            refine next (k + 1) rfl rfl ⟨rfl, trivial⟩ trivial ?_ ?_
            · omega
            · refine ⟨by omega, ?_⟩
              rw [← hk2, letter_all (k := k) (by omega)]
              simp only [*, Bool.true_and]
        · have p15 := df h8
          refine go tbv18ok 11 rfl rfl trivial ?_
          refine rt1 rfl rfl ?_
          refine ple ?_
          have hne : ¬ s = [] := fun q => by subst q; simp at *
          unfold nameE
          rw [if_neg hne, if_neg (by omega), ← hk2, List.drop_of_length_le (by omega)]
          rfl
theorem r4_Split (s : Bs) (hs : s.length ≤ 1000000) : Fn Tryz.prog gb 74 [.str s] (.sl strc (wordsOf s)) := by
  refine fn_cw tbv18ok Tryz.func74 rfl Tryz.ntmps74 rfl cb74 rfl rfl fun w N H hG => ?_
  have s_l : s.length ≤ 9223372036854775807 := w.1
  refine go tbv18ok 13 rfl rfl trivial ?_
  refine cnd rfl (fun h1 => ?_) (fun h1 => ?_)
  · have p2 := dt h1
    refine go tbv18ok 7 rfl rfl trivial ?_
    refine rt1 rfl rfl ?_
    refine ple_nilx ?_
    unfold wordsOf; rw [if_pos (List.eq_nil_of_length_eq_zero (by omega))]
  · have p3 := df h1
    refine go tbv18ok 19 rfl rfl trivial ?_
    refine sw_own (t := 3) (k := 1) (e := 9) 0 strc rfl rfl ?_
    refine loop (ι := Nat × Nat × (List Bs) × Value) [0, 2, 6, 7, 8] [] (fun ⟨f, k, out, u_out⟩ => [(3, .osl 0), (4, .int .i64 (f : Int)), (5, .int .i64 (k : Int))]) (fun ⟨f, k, out, u_out⟩ => [(0, .arr u_out 1 9 strc out)]) (fun ⟨f, k, out, u_out⟩ => f ≤ k ∧ k ≤ s.length ∧ dots s = out ++ dots (s.drop f) ∧ noDot s f k ∧ out.length ≤ k) (fun ⟨f, k, out, u_out⟩ => s.length - k) ⟨0, 0, [], (.slice none 0 0)⟩ ⟨rfl, rfl, rfl, trivial⟩ ⟨rfl, trivial⟩ ?_ ?_
    · exact ⟨Nat.le_refl _, Nat.zero_le _, rfl, noDot_nil, Nat.zero_le _⟩
    · rintro ⟨f, k, out, u_out⟩ hp4
      obtain ⟨hk1, hk2, hk3, hk4, hk5⟩ := hp4
      refine go tbv18ok 9 rfl rfl trivial ?_
      refine cnd rfl (fun h5 => ?_) (fun h5 => ?_)
      · have p6 := dt h5
        have := u8r (s.getD k 0)
        refine go tbv18ok 8 rfl rfl trivial ?_
        refine q1 (sidx tbv18ok k rfl rfl rfl rfl rfl (by omega)) rfl fun w7 => ?_
        refine go tbv18ok 3 rfl rfl trivial ?_
        refine cnd rfl (fun h8 => ?_) (fun h8 => ?_)
        · have p9 := dt h8
          refine go tbv18ok 6 rfl rfl trivial ?_
          refine q1 (ssl tbv18ok f k rfl rfl rfl rfl rfl rfl rfl (by omega) (by omega)) rfl fun w10 => ?_
          refine ef (bsl 1 strc [((s.drop f).take (k - f))] tbv18ok rfl rfl rfl rfl rfl (fun _ => rfl) rfl (by decide) (by decide) rfl fun u11 => ?_)
          refine ef (app tbv18ok [((s.drop f).take (k - f))] rfl rfl rfl rfl rfl rfl rfl rfl rfl (src_o rfl rfl) (by first | omega | (simp; omega)) rfl fun u12 => ?_)
          refine go tbv18ok 15 rfl rfl ⟨(by omega), (by omega), trivial⟩ ?_
          refine next ⟨(k + 1), (k + 1), (out ++ [((s.drop f).take (k - f))]), (u12)⟩ rfl rfl ⟨rfl, rfl, rfl, trivial⟩ ⟨rfl, trivial⟩ ?_ ?_
          · (try simp only []); omega
          · (try simp only [])
            refine ⟨by omega, by omega, split_hit hk3 hk4 (by omega) (by omega) (byteEq (n := 46) (by omega) (by omega)), noDot_nil, by simp; omega⟩
        · have p13 := df h8
          refine go tbv18ok 8 rfl rfl ⟨(by omega), trivial⟩ ?_
          refine next ⟨f, (k + 1), out, (u_out)⟩ rfl rfl ⟨rfl, rfl, rfl, trivial⟩ ⟨rfl, trivial⟩ ?_ ?_
          · (try simp only []); omega
          · exact ⟨by omega, by omega, hk3, noDot_step hk4 (byteNe (n := 46) (by omega) (by omega)), by omega⟩
      · have p14 := df h5
        refine go tbv18ok 10 rfl rfl trivial ?_
        refine q1 (sslo tbv18ok f rfl rfl rfl rfl rfl (by omega)) rfl fun w15 => ?_
        refine ef (bsl 1 strc [(s.drop f)] tbv18ok rfl rfl rfl rfl rfl (fun _ => rfl) rfl (by decide) (by decide) rfl fun u16 => ?_)
        refine ef (app tbv18ok [(s.drop f)] rfl rfl rfl rfl rfl rfl rfl rfl rfl (src_o rfl rfl) (by first | omega | (simp; omega)) rfl fun u17 => ?_)
        refine go tbv18ok 3 rfl rfl trivial ?_
        refine givec 0 rfl ?_
        refine go tbv18ok 1 rfl rfl trivial ?_
        refine rt1 rfl rfl ?_
        refine ple ?_
        have hne : ¬ s = [] := fun q => by subst q; simp at *
        have e : wordsOf s = (out ++ [(s.drop f)]) := by unfold wordsOf; rw [if_neg hne]; exact split_end hk3 hk4 (by omega)
        first | (rw [e]; done) | (rw [e]; rfl)
theorem r4_Key (s : Bs) (pattern : Bool) : Fn Tryz.prog gb 37 [.str s, .bool pattern] (.int .i64 (keyE (besidesOf pattern) s)) := by
  refine fn_cw tbv18ok Tryz.func37 rfl Tryz.ntmps37 rfl cb37 rfl rfl fun w N H hG => ?_
  have s_l : s.length ≤ 9223372036854775807 := w.1
  refine go tbv18ok 13 rfl rfl trivial ?_
  refine cnd rfl (fun h1 => ?_) (fun h1 => ?_)
  · have p2 := dt h1
    refine go tbv18ok 7 rfl rfl trivial ?_
    refine rt1 rfl rfl ?_
    refine ple ?_
    unfold keyE
    rw [if_pos (by omega)]
  · have p3 := df h1
    refine go tbv18ok 6 rfl rfl trivial ?_
    refine call (r4_Split _ (by first | omega | (simp; done) | decide)) rfl rfl fun w4 => ?_
    refine go tbv18ok 5 rfl rfl trivial ?_
    refine loop (ι := Nat) [0, 1, 9, 10, 11, 12, 13, 14] [] (fun k => [(15, .int .i64 (k : Int))]) (fun k => []) (fun k => k ≤ (wordsOf s).length ∧ (wordsOf s).any (isBad (besidesOf pattern)) = ((wordsOf s).drop k).any (isBad (besidesOf pattern))) (fun k => (wordsOf s).length - k) 0 ⟨rfl, trivial⟩ trivial ?_ ?_
    · exact ⟨Nat.zero_le _, by simp⟩
    · rintro k hp5
      obtain ⟨hk1, hk2⟩ := hp5
      have hwl := words_le s
      refine go tbv18ok 6 rfl rfl trivial ?_
      refine cnd rfl (fun h6 => ?_) (fun h6 => ?_)
      · have p7 := dt h6
        obtain ⟨c8, hc9⟩ := getE (xs := wordsOf s) (m := k) (by omega)
        have c8_l : c8.length ≤ 9223372036854775807 := (w4.2 c8 (List.mem_of_getElem? hc9)).1
        refine go tbv18ok 6 rfl rfl trivial ?_
        refine q1 (qidx tbv18ok k rfl rfl rfl hc9 rfl rfl rfl rfl) rfl fun w10 => ?_
        refine go tbv18ok 19 rfl rfl trivial ?_
        refine loop (ι := Nat × Bool) [0, 1, 6, 9, 10, 11, 12, 13, 14, 15, 16, 17, 18, 19, 20, 21] [] (fun ⟨j, b⟩ => [(7, .bool b), (8, .int .i64 (j : Int))]) (fun ⟨j, b⟩ => []) (fun ⟨j, b⟩ => j ≤ c8.length ∧ (decide ((c8.length : Int) = 0) || !plain c8) = (b || !((c8.drop j).all (fun c => letter c.toNat)))) (fun ⟨j, b⟩ => c8.length - j) ⟨0, (decide ((c8.length : Int) = 0))⟩ ⟨rfl, rfl, trivial⟩ trivial ?_ ?_
        · exact ⟨Nat.zero_le _, rfl⟩
        · rintro ⟨j, b⟩ hp11
          obtain ⟨hj1, hj2⟩ := hp11
          refine go tbv18ok 9 rfl rfl trivial ?_
          refine cnd rfl (fun h12 => ?_) (fun h12 => ?_)
          · have p13 := dt h12
            have := u8r (c8.getD j 0)
            refine go tbv18ok 9 rfl rfl trivial ?_
            refine q1g [30, 31] rfl (fun hc => sidx tbv18ok j rfl rfl rfl rfl rfl (by omega)) ⟨(fun hc => hc), (fun hc => hc), trivial⟩ rfl rfl rfl fun _ => ?_
            refine callg rfl (fun hc => (r4_letter _)) rfl ⟨(fun hc => hc), trivial⟩ rfl rfl fun _ => ?_
            refine go tbv18ok 11 rfl rfl ⟨(fun hc => hc), rfl, rfl, (by omega), trivial⟩ ?_
            refine next ⟨(j + 1), (b || (!(letter ((c8.getD j 0).toNat : Int))))⟩ rfl rfl ⟨rfl, rfl, trivial⟩ trivial ?_ ?_
            · (try simp only []); omega
            · refine ⟨by omega, ?_⟩
              rw [hj2, letter_all (k := j) (by omega)]
              simp only [*, Bool.true_or, Bool.false_or, Bool.not_and, Bool.not_true, Bool.not_false, Bool.false_and, Bool.true_and, Bool.or_assoc]
          · have p14 := df h12
            refine go tbv18ok 22 rfl rfl ⟨(fun hc => hc), (fun hc => hc), (fun hc => hc), (fun hc => hc), (fun hc => hc), (fun hc => (by rw [hc]; rfl)), (fun hc => rfl), (fun hc => hc), (fun hc => (by rw [hc]; rfl)), (fun hc => rfl), (fun hc => hc), rfl, rfl, trivial⟩ ?_
            refine cnd rfl (fun h15 => ?_) (fun h15 => ?_)
            · have h16 := bl h15
              have h17 := br h15
              have h18 := not_t h17
              refine go tbv18ok 11 rfl rfl trivial ?_
              refine rt1 rfl rfl ?_
              refine ple ?_
              rw [List.drop_of_length_le (by omega)] at hj2
              have hX := hj2
              simp only [List.all_nil, Bool.not_true, Bool.or_false] at hX
              have hb : isBad (besidesOf pattern) c8 = true := by rw [isBad_doc hX]; first | (simp [*]; done) | (simp_all; done) | (cases pattern <;> simp_all; done) | grind
              unfold keyE
              rw [if_neg (by omega), hk2, dropE hc9, List.any_cons, hb]
              rfl
            · refine go tbv18ok 7 rfl rfl ⟨(by omega), trivial⟩ ?_
              refine next (k + 1) rfl rfl ⟨rfl, trivial⟩ trivial ?_ ?_
              · omega
              · refine ⟨by omega, ?_⟩
                rw [List.drop_of_length_le (by omega)] at hj2
                have hX := hj2
                simp only [List.all_nil, Bool.not_true, Bool.or_false] at hX
                have hb : isBad (besidesOf pattern) c8 = false := by rw [isBad_doc hX]; first | (simp [*]; done) | (simp_all; done) | (cases pattern <;> simp_all; done) | grind
                rw [hk2, dropE hc9, List.any_cons, hb]
                simp
      · have p19 := df h6
        refine go tbv18ok 11 rfl rfl trivial ?_
        refine rt1 rfl rfl ?_
        refine ple ?_
        unfold keyE
        rw [if_neg (by omega), hk2, List.drop_of_length_le (by omega)]
        rfl
end Go.SW.V
set_option linter.unusedVariables false
set_option maxRecDepth 100000
set_option maxHeartbeats 4000000
namespace Go.SW.V
open Go.SW Go.Proofs
theorem cb38 : Callable Tryz.prog 38 := callable_of Tryz.func38 (by kernel_rfl) (by kernel_rfl)
theorem cb59 : Callable Tryz.prog 59 := callable_of Tryz.func59 (by kernel_rfl) (by kernel_rfl)
theorem cb75 : Callable Tryz.prog 75 := callable_of Tryz.func75 (by kernel_rfl) (by kernel_rfl)
def tbv19 : Tb := [(2, ⟨.int .i64, 1, 8, [.int .i64 0]⟩),
  (5, ⟨.int .u8, 1, 1, [.int .u8 0]⟩),
  (9, ⟨.str, 1, 16, [.str []]⟩),
  (26, ⟨.slc 118, 1, 24, [.sl Pair.pc []]⟩),
  (118, ⟨.agg [(0, 1), (1, 1), (2, 1), (3, 1)], 4, 48, [.str [], .int .u8 0, .int .i64 0, .str []]⟩)]
theorem tbv19ok : tbB Tryz.prog tbv19 = true := by kernel_rfl
theorem r9_Pair (p : Pair) (ahead : List Pair) : Fn Tryz.prog gb 75 [.agg (Pair.pc p), .sl Pair.pc ahead] (.int .i64 (pairErr p ahead)) := by
  refine fn_cw tbv19ok Tryz.func75 rfl Tryz.ntmps75 rfl cb75 rfl rfl fun w N H hG => ?_
  have ahead_l : ahead.length ≤ 140737488355328 := w.2.1.1
  refine go tbv19ok 2 rfl rfl trivial ?_
  refine ef (boxA 0 rfl rfl rfl fun b1 => ?_)
  refine go tbv19ok 7 rfl rfl trivial ?_
  refine call (r4_Name _) rfl rfl fun w2 => ?_
  refine go tbv19ok 10 rfl rfl trivial ?_
  refine cnd rfl (fun h3 => ?_) (fun h3 => ?_)
  · have h4 := not_t h3
    have p5 := df h4
    refine go tbv19ok 8 rfl rfl trivial ?_
    refine rt1 rfl rfl ?_
    refine ple ?_
    refine congrArg (PV.int .i64) ?_
    rw [pairErr_doc]
    simp only [Bool.or_eq_true, Bool.and_eq_true, Bool.not_eq_true', decide_eq_true_eq, Bool.or_eq_false_iff, Bool.and_eq_false_iff, Bool.not_eq_false', decide_eq_false_iff_not, beq_iff_eq, beq_eq_false_iff_ne] at *
    first | (simp [*]; done) | (simp [*]; omega) | ((repeat' split) <;> first | rfl | omega | (exfalso; simp_all; done) | (exfalso; simp_all; omega) | grind)
  · have h6 := not_f h3
    have p7 := dt h6
    refine go tbv19ok 10 rfl rfl trivial ?_
    refine cnd rfl (fun h8 => ?_) (fun h8 => ?_)
    · have p9 := dt h8
      refine go tbv19ok 7 rfl rfl trivial ?_
      refine rt1 rfl rfl ?_
      refine ple ?_
      refine congrArg (PV.int .i64) ?_
      rw [pairErr_doc]
      simp only [Bool.or_eq_true, Bool.and_eq_true, Bool.not_eq_true', decide_eq_true_eq, Bool.or_eq_false_iff, Bool.and_eq_false_iff, Bool.not_eq_false', decide_eq_false_iff_not, beq_iff_eq, beq_eq_false_iff_ne] at *
      first | (simp [*]; done) | (simp [*]; omega) | ((repeat' split) <;> first | rfl | omega | (exfalso; simp_all; done) | (exfalso; simp_all; omega) | grind)
    · have p10 := df h8
      refine go tbv19ok 16 rfl rfl ⟨(fun hc => hc), (fun hc => hc), (fun hc => hc), rfl, rfl, trivial⟩ ?_
      refine cnd rfl (fun h11 => ?_) (fun h11 => ?_)
      · have h12 := bl h11
        have p13 := dt h12
        have h14 := br h11
        have p15 := dt h14
        refine go tbv19ok 7 rfl rfl trivial ?_
        refine rt1 rfl rfl ?_
        refine ple ?_
        refine congrArg (PV.int .i64) ?_
        rw [pairErr_doc]
        simp only [Bool.or_eq_true, Bool.and_eq_true, Bool.not_eq_true', decide_eq_true_eq, Bool.or_eq_false_iff, Bool.and_eq_false_iff, Bool.not_eq_false', decide_eq_false_iff_not, beq_iff_eq, beq_eq_false_iff_ne] at *
        first | (simp [*]; done) | (simp [*]; omega) | ((repeat' split) <;> first | rfl | omega | (exfalso; simp_all; done) | (exfalso; simp_all; omega) | grind)
      · refine go tbv19ok 20 rfl rfl ⟨(fun hc => hc), (fun hc => hc), (fun hc => hc), (fun hc => hc), (fun hc => hc), (fun hc => hc), (fun hc => (by rw [hc]; rfl)), (fun hc => rfl), rfl, rfl, trivial⟩ ?_
        refine cnd rfl (fun h16 => ?_) (fun h16 => ?_)
        · have h17 := bl h16
          have p18 := dt h17
          have h19 := br h16
          refine go tbv19ok 7 rfl rfl trivial ?_
          refine rt1 rfl rfl ?_
          refine ple ?_
          refine congrArg (PV.int .i64) ?_
          rw [pairErr_doc]
          simp only [Bool.or_eq_true, Bool.and_eq_true, Bool.not_eq_true', decide_eq_true_eq, Bool.or_eq_false_iff, Bool.and_eq_false_iff, Bool.not_eq_false', decide_eq_false_iff_not, beq_iff_eq, beq_eq_false_iff_ne] at *
          first | (simp [*]; done) | (simp [*]; omega) | ((repeat' split) <;> first | rfl | omega | (exfalso; simp_all; done) | (exfalso; simp_all; omega) | grind)
        · refine go tbv19ok 25 rfl rfl ⟨(fun hc => hc), (fun hc => hc), rfl, rfl, (fun hc => hc), (fun hc => hc), (fun hc => hc), (fun hc => hc), (fun hc => hc), (fun hc => hc), (fun hc => (by rw [hc]; rfl)), (fun hc => rfl), rfl, rfl, trivial⟩ ?_
          refine cnd rfl (fun h20 => ?_) (fun h20 => ?_)
          · refine go tbv19ok 7 rfl rfl trivial ?_
            refine rt1 rfl rfl ?_
            refine ple ?_
            refine congrArg (PV.int .i64) ?_
            rw [pairErr_doc]
            simp only [Bool.or_eq_true, Bool.and_eq_true, Bool.not_eq_true', decide_eq_true_eq, Bool.or_eq_false_iff, Bool.and_eq_false_iff, Bool.not_eq_false', decide_eq_false_iff_not, beq_iff_eq, beq_eq_false_iff_ne] at *
            first | (simp [*]; done) | (simp [*]; omega) | ((repeat' split) <;> first | rfl | omega | (exfalso; simp_all; done) | (exfalso; simp_all; omega) | grind)
          · have h21 := orl h20
            have h22 := orr h20
            refine go tbv19ok 11 rfl rfl trivial ?_
            refine loop (ι := Nat) [0, 1, 2, 5, 8, 9, 10, 11, 12, 14, 15, 16, 17, 18, 19, 20, 21, 22, 23, 24, 25, 26, 27, 28, 29, 30, 31, 32, 33, 34, 35, 36, 37, 38, 39, 40, 41, 42, 43, 44, 45, 46, 47, 48, 49, 50, 51, 52, 53, 54, 55, 56, 57, 58] [0] (fun k => [(59, .int .i64 (k : Int))]) (fun k => []) (fun k => k ≤ ahead.length ∧ findP ahead p.key = findP (ahead.drop k) p.key) (fun k => ahead.length - k) 0 ⟨rfl, trivial⟩ trivial ?_ ?_
            · exact ⟨Nat.zero_le _, rfl⟩
            · rintro k hp23
              obtain ⟨hk1, hk2⟩ := hp23
              refine go tbv19ok 6 rfl rfl trivial ?_
              refine cnd rfl (fun h24 => ?_) (fun h24 => ?_)
              · have p25 := dt h24
                obtain ⟨c26, hc27⟩ := getE (xs := ahead) (m := k) (by omega)
                have c26_w := Pair.pwf (w.2.1.2 c26 (List.mem_of_getElem? hc27))
                refine go tbv19ok 6 rfl rfl trivial ?_
                refine q1 (qidx tbv19ok k rfl rfl rfl hc27 rfl rfl rfl rfl) rfl fun w28 => ?_
                refine go tbv19ok 1 rfl rfl trivial ?_
                refine ef (alloc tbv19ok 1 rfl rfl rfl rfl fun b29 => ?_)
                refine ef (storeA tbv19ok rfl rfl rfl rfl rfl rfl rfl rfl rfl rfl ?_)
                refine go tbv19ok 11 rfl rfl trivial ?_
                refine cnd rfl (fun h30 => ?_) (fun h30 => ?_)
                · have p31 := dt h30
                  refine go tbv19ok 11 rfl rfl trivial ?_
                  refine rt1 rfl rfl ?_
                  refine ple ?_
                  have e9 := findP_hit hk2 (dropE hc27) (by assumption)
                  clear hk2
                  refine congrArg (PV.int .i64) ?_
                  rw [pairErr_doc]
                  simp only [Bool.or_eq_true, Bool.and_eq_true, Bool.not_eq_true', decide_eq_true_eq, Bool.or_eq_false_iff, Bool.and_eq_false_iff, Bool.not_eq_false', decide_eq_false_iff_not, beq_iff_eq, beq_eq_false_iff_ne] at *
                  first | (simp [*]; done) | (simp [*]; omega) | ((repeat' split) <;> first | rfl | omega | (exfalso; simp_all; done) | (exfalso; simp_all; omega) | grind)
                · have p32 := df h30
                  refine go tbv19ok 7 rfl rfl ⟨(by omega), trivial⟩ ?_
                  refine next (k + 1) rfl rfl ⟨rfl, trivial⟩ trivial ?_ ?_
                  · omega
                  · exact ⟨by omega, findP_miss hk2 (dropE hc27) (by assumption)⟩
              · have p33 := df h24
                refine go tbv19ok 11 rfl rfl trivial ?_
                refine rt1 rfl rfl ?_
                refine ple ?_
                have e9 : findP ahead p.key = none := by rw [hk2, List.drop_of_length_le (by omega)]; rfl
                clear hk2
                refine congrArg (PV.int .i64) ?_
                rw [pairErr_doc]
                simp only [Bool.or_eq_true, Bool.and_eq_true, Bool.not_eq_true', decide_eq_true_eq, Bool.or_eq_false_iff, Bool.and_eq_false_iff, Bool.not_eq_false', decide_eq_false_iff_not, beq_iff_eq, beq_eq_false_iff_ne] at *
                first | (simp [*]; done) | (simp [*]; omega) | ((repeat' split) <;> first | rfl | omega | (exfalso; simp_all; done) | (exfalso; simp_all; omega) | grind)
theorem r9_Check (h : List Pair) : Fn Tryz.prog gb 38 [.sl Pair.pc h] (.int .i64 (headE h)) := by
  refine fn_cw tbv19ok Tryz.func38 rfl Tryz.ntmps38 rfl cb38 rfl rfl fun w N H hG => ?_
  have h_l : h.length ≤ 140737488355328 := w.1.1
  refine go tbv19ok 13 rfl rfl trivial ?_
  refine cnd rfl (fun h1 => ?_) (fun h1 => ?_)
  · have p2 := dt h1
    refine go tbv19ok 7 rfl rfl trivial ?_
    refine rt1 rfl rfl ?_
    refine ple ?_
    simp [headE, *]
  · have p3 := df h1
    refine go tbv19ok 11 rfl rfl trivial ?_
    refine loop (ι := Nat) [0, 6, 7, 8, 9, 10] [] (fun k => [(11, .int .i64 (k : Int))]) (fun k => []) (fun k => k ≤ h.length ∧ headGo [] h = headGo (h.take k) (h.drop k)) (fun k => h.length - k) 0 ⟨rfl, trivial⟩ trivial ?_ ?_
    · exact ⟨Nat.zero_le _, rfl⟩
    · rintro k hp4
      obtain ⟨hk1, hk2⟩ := hp4
      refine go tbv19ok 6 rfl rfl trivial ?_
      refine cnd rfl (fun h5 => ?_) (fun h5 => ?_)
      · have p6 := dt h5
        obtain ⟨c7, hc8⟩ := getE (xs := h) (m := k) (by omega)
        have c7_w := Pair.pwf (w.1.2 c7 (List.mem_of_getElem? hc8))
        refine go tbv19ok 7 rfl rfl trivial ?_
        refine q1 (qidx tbv19ok k rfl rfl rfl hc8 rfl rfl rfl rfl) rfl fun w9 => ?_
        refine go tbv19ok 1 rfl rfl trivial ?_
        refine ef (alloc tbv19ok 0 rfl rfl rfl rfl fun b10 => ?_)
        refine go tbv19ok 1 rfl rfl trivial ?_
        refine ef (storeA tbv19ok rfl rfl rfl rfl rfl rfl rfl rfl rfl rfl ?_)
        refine go tbv19ok 3 rfl rfl trivial ?_
        refine any [1, 2, 3, 4, 5, 6] 6 mixd rfl ?_
        refine gov tbv19ok [0, 1, 2] 3 rfl (by kernel_rfl) rfl rfl trivial ?_
        refine vq 3 (lshi tbv19ok k rfl rfl rfl rfl rfl (fun _ => rfl) rfl (by omega)) rfl (by kernel_rfl) rfl fun w11 => ?_
        refine vcall 4 rfl (by kernel_rfl) (r9_Pair _ _) rfl rfl fun w12 => ?_
        have := pairErr_r c7 (h.take k)
        refine gov tbv19ok [5] 0 rfl (by kernel_rfl) rfl rfl trivial ?_
        refine vdone (by kernel_rfl) ?_
        refine go tbv19ok 7 rfl rfl trivial ?_
        refine cnd rfl (fun h13 => ?_) (fun h13 => ?_)
        · have h14 := not_t h13
          have p15 := df h14
          refine go tbv19ok 12 rfl rfl trivial ?_
          refine rt1 rfl rfl ?_
          refine ple ?_
          unfold headE
          rw [if_neg (by omega), hk2, dropE hc8]
          simp only [headGo]
          rw [if_pos (by omega)]
        · have h16 := not_f h13
          have p17 := dt h16
          refine go tbv19ok 7 rfl rfl ⟨(by omega), trivial⟩ ?_
          refine next (k + 1) rfl rfl ⟨rfl, trivial⟩ trivial ?_ ?_
          · omega
          · refine ⟨by omega, ?_⟩
            rw [hk2, dropE hc8, takeE hc8]
            simp only [headGo]
            rw [if_neg (by omega)]
      · have p18 := df h5
        refine go tbv19ok 11 rfl rfl trivial ?_
        refine rt1 rfl rfl ?_
        refine ple ?_
        unfold headE
        rw [if_neg (by omega), hk2, List.drop_of_length_le (by omega)]
        rfl
theorem r9_Same (a : List Pair) (b : List Pair) : Fn Tryz.prog gb 59 [.sl Pair.pc a, .sl Pair.pc b] (.bool (decide (a = b))) := by
  refine fn_cw tbv19ok Tryz.func59 rfl Tryz.ntmps59 rfl cb59 rfl rfl fun w N H hG => ?_
  have a_l : a.length ≤ 140737488355328 := w.1.1
  have b_l : b.length ≤ 140737488355328 := w.2.1.1
  refine go tbv19ok 15 rfl rfl trivial ?_
  refine cnd rfl (fun h1 => ?_) (fun h1 => ?_)
  · have h2 := not_t h1
    have p3 := df h2
    refine go tbv19ok 7 rfl rfl trivial ?_
    refine rt1 rfl rfl ?_
    refine ple ?_
    exact congrArg PV.bool (eqL_len (by assumption)).symm
  · have h4 := not_f h1
    have p5 := dt h4
    refine go tbv19ok 11 rfl rfl trivial ?_
    refine loop (ι := Nat) [0, 1, 6, 7, 8, 9, 10, 11, 12] [] (fun k => [(13, .int .i64 (k : Int))]) (fun k => []) (fun k => k ≤ a.length ∧ decide (a = b) = decide (a.drop k = b.drop k)) (fun k => a.length - k) 0 ⟨rfl, trivial⟩ trivial ?_ ?_
    · exact ⟨Nat.zero_le _, rfl⟩
    · rintro k hp6
      obtain ⟨hk1, hk2⟩ := hp6
      refine go tbv19ok 6 rfl rfl trivial ?_
      refine cnd rfl (fun h7 => ?_) (fun h7 => ?_)
      · have p8 := dt h7
        refine go tbv19ok 11 rfl rfl trivial ?_
        refine any [0, 1, 2, 3, 4, 5] 9 mixd rfl ?_
        refine gov tbv19ok [0, 1] 7 rfl (by kernel_rfl) rfl rfl trivial ?_
        obtain ⟨c9, hc10⟩ := getE (xs := a) (m := k) (by omega)
        have c9_w := Pair.pwf (w.1.2 c9 (List.mem_of_getElem? hc10))
        refine vq 2 (qidx tbv19ok k rfl rfl rfl hc10 rfl rfl rfl rfl) rfl (by kernel_rfl) rfl fun w11 => ?_
        refine gov tbv19ok [3, 4, 5] 3 rfl (by kernel_rfl) rfl rfl trivial ?_
        obtain ⟨c12, hc13⟩ := getE (xs := b) (m := k) (by omega)
        have c12_w := Pair.pwf (w.2.1.2 c12 (List.mem_of_getElem? hc13))
        refine vq 6 (qidx tbv19ok k rfl rfl rfl hc13 rfl rfl rfl rfl) rfl (by kernel_rfl) rfl fun w14 => ?_
        refine gov tbv19ok [7] 1 rfl (by kernel_rfl) rfl rfl trivial ?_
        refine vq 8 (sane rfl rfl eqg118 (veq118 c9 c12)) rfl (by kernel_rfl) rfl fun w15 => ?_
        refine vdone (by kernel_rfl) ?_
        refine go tbv19ok 1 rfl rfl trivial ?_
        refine cnd rfl (fun h16 => ?_) (fun h16 => ?_)
        · have h17 := not_t h16
          have p18 := df h17
          refine go tbv19ok 11 rfl rfl trivial ?_
          refine rt1 rfl rfl ?_
          refine ple ?_
          exact congrArg PV.bool (eqL_miss hk2 (dropE hc10) (dropE hc13) (by assumption)).symm
        · have h19 := not_f h16
          have p20 := dt h19
          refine go tbv19ok 7 rfl rfl ⟨(by omega), trivial⟩ ?_
          refine next (k + 1) rfl rfl ⟨rfl, trivial⟩ trivial ?_ ?_
          · omega
          · exact ⟨by omega, eqL_step hk2 (dropE hc10) (dropE hc13) (by assumption)⟩
      · have p21 := df h7
        refine go tbv19ok 11 rfl rfl trivial ?_
        refine rt1 rfl rfl ?_
        refine ple ?_
        exact congrArg PV.bool (eqL_end hk2 (by omega) (by omega)).symm
end Go.SW.V
set_option linter.unusedVariables false
set_option maxRecDepth 100000
set_option maxHeartbeats 4000000
namespace Go.SW.V
open Go.SW Go.Proofs
end Go.SW.V
set_option linter.unusedVariables false
set_option maxRecDepth 100000
set_option maxHeartbeats 4000000
namespace Go.SW.V
open Go.SW Go.Proofs
theorem cb108 : Callable Tryz.prog 108 := callable_of Tryz.func108 (by kernel_rfl) (by kernel_rfl)
theorem cb109 : Callable Tryz.prog 109 := callable_of Tryz.func109 (by kernel_rfl) (by kernel_rfl)
theorem cb117 : Callable Tryz.prog 117 := callable_of Tryz.func117 (by kernel_rfl) (by kernel_rfl)
def tbv22 : Tb := [(4, ⟨.bool, 1, 1, [.bool false]⟩),
  (5, ⟨.int .u8, 1, 1, [.int .u8 0]⟩),
  (9, ⟨.str, 1, 16, [.str []]⟩),
  (26, ⟨.slc 118, 1, 24, [.sl Pair.pc []]⟩),
  (118, ⟨.agg [(0, 1), (1, 1), (2, 1), (3, 1)], 4, 48, [.str [], .int .u8 0, .int .i64 0, .str []]⟩),
  (144, ⟨.agg [(0, 1), (1, 1), (2, 1), (3, 1)], 4, 56, [.int .u8 0, .str [], .sl Pair.pc [], .bool false]⟩)]
theorem tbv22ok : tbB Tryz.prog tbv22 = true := by kernel_rfl
theorem rule_Check (r : Rule) : Fn Tryz.prog gb 108 [.agg (Rule.pc r)] (.int .i64 (ruleE r)) := by
  refine fn_cw tbv22ok Tryz.func108 rfl Tryz.ntmps108 rfl cb108 rfl rfl fun w N H hG => ?_
  have r_w := Rule.pwf w.1
  have r_w' := r_w
  simp only [Rule.wf] at r_w'
  have r_want_k := Rule.kd2 w.1
  have r_want_k2 : r.want.length ≤ 140737488355328 := w.1.2.2.1.1
  refine go tbv22ok 2 rfl rfl trivial ?_
  refine ef (boxA 0 rfl rfl rfl fun b1 => ?_)
  refine go tbv22ok 18 rfl rfl trivial ?_
  refine cnd rfl (fun h2 => ?_) (fun h2 => ?_)
  · have p3 := dt h2
    refine go tbv22ok 8 rfl rfl trivial ?_
    refine rt1 rfl rfl ?_
    refine ple ?_
    refine congrArg (PV.int .i64) ?_
    (try simp only [Bool.or_eq_true, Bool.and_eq_true, Bool.not_eq_true', decide_eq_true_eq, Bool.or_eq_false_iff, Bool.and_eq_false_iff, Bool.not_eq_false', decide_eq_false_iff_not, beq_iff_eq, beq_eq_false_iff_ne] at *)
    unfold ruleE
    repeat (first | rw [if_pos (by omega)] | rw [if_neg (by omega)])
    all_goals first | done | rfl | omega
  · have p4 := df h2
    refine go tbv22ok 8 rfl rfl trivial ?_
    refine cnd rfl (fun h5 => ?_) (fun h5 => ?_)
    · have p6 := dt h5
      refine go tbv22ok 3 rfl rfl trivial ?_
      refine call (words_Key _) rfl rfl fun w7 => ?_
      refine go tbv22ok 11 rfl rfl trivial ?_
      refine cnd rfl (fun h8 => ?_) (fun h8 => ?_)
      · have h9 := not_t h8
        have p10 := df h9
        refine go tbv22ok 8 rfl rfl trivial ?_
        refine rt1 rfl rfl ?_
        refine ple ?_
        refine congrArg (PV.int .i64) ?_
        (try simp only [Bool.or_eq_true, Bool.and_eq_true, Bool.not_eq_true', decide_eq_true_eq, Bool.or_eq_false_iff, Bool.and_eq_false_iff, Bool.not_eq_false', decide_eq_false_iff_not, beq_iff_eq, beq_eq_false_iff_ne] at *)
        unfold ruleE
        repeat (first | rw [if_pos (by omega)] | rw [if_neg (by omega)])
        all_goals first | done | rfl | omega
      · have h11 := not_f h8
        have p12 := dt h11
        refine go tbv22ok 6 rfl rfl trivial ?_
        refine call (head_Check _) rfl rfl fun w13 => ?_
        refine go tbv22ok 4 rfl rfl trivial ?_
        refine rt1 rfl rfl ?_
        refine ple ?_
        refine congrArg (PV.int .i64) ?_
        (try simp only [Bool.or_eq_true, Bool.and_eq_true, Bool.not_eq_true', decide_eq_true_eq, Bool.or_eq_false_iff, Bool.and_eq_false_iff, Bool.not_eq_false', decide_eq_false_iff_not, beq_iff_eq, beq_eq_false_iff_ne] at *)
        unfold ruleE
        repeat (first | rw [if_pos (by omega)] | rw [if_neg (by omega)])
        all_goals first | done | rfl | omega
    · have p14 := df h5
      refine go tbv22ok 3 rfl rfl trivial ?_
      refine call (words_Pattern _) rfl rfl fun w15 => ?_
      refine go tbv22ok 11 rfl rfl trivial ?_
      refine cnd rfl (fun h16 => ?_) (fun h16 => ?_)
      · have h17 := not_t h16
        have p18 := df h17
        refine go tbv22ok 8 rfl rfl trivial ?_
        refine rt1 rfl rfl ?_
        refine ple ?_
        refine congrArg (PV.int .i64) ?_
        (try simp only [Bool.or_eq_true, Bool.and_eq_true, Bool.not_eq_true', decide_eq_true_eq, Bool.or_eq_false_iff, Bool.and_eq_false_iff, Bool.not_eq_false', decide_eq_false_iff_not, beq_iff_eq, beq_eq_false_iff_ne] at *)
        unfold ruleE
        repeat (first | rw [if_pos (by omega)] | rw [if_neg (by omega)])
        all_goals first | done | rfl | omega
      · have h19 := not_f h16
        have p20 := dt h19
        refine go tbv22ok 6 rfl rfl trivial ?_
        refine call (head_Check _) rfl rfl fun w21 => ?_
        refine go tbv22ok 4 rfl rfl trivial ?_
        refine rt1 rfl rfl ?_
        refine ple ?_
        refine congrArg (PV.int .i64) ?_
        (try simp only [Bool.or_eq_true, Bool.and_eq_true, Bool.not_eq_true', decide_eq_true_eq, Bool.or_eq_false_iff, Bool.and_eq_false_iff, Bool.not_eq_false', decide_eq_false_iff_not, beq_iff_eq, beq_eq_false_iff_ne] at *)
        unfold ruleE
        repeat (first | rw [if_pos (by omega)] | rw [if_neg (by omega)])
        all_goals first | done | rfl | omega
theorem rule_heads (r : Rule) (h : List Pair) : Fn Tryz.prog gb 117 [.agg (Rule.pc r), .sl Pair.pc h] (.bool (headsGo r.all h r.want)) := by
  refine fn_cw tbv22ok Tryz.func117 rfl Tryz.ntmps117 rfl cb117 rfl rfl fun w N H hG => ?_
  have r_want_l : r.want.length ≤ 140737488355328 := w.1.2.2.1.1
  have h_l : h.length ≤ 140737488355328 := w.2.1.1
  refine go tbv22ok 2 rfl rfl trivial ?_
  refine ef (boxA 0 rfl rfl rfl fun b1 => ?_)
  refine go tbv22ok 17 rfl rfl trivial ?_
  refine loop (ι := Nat) [0, 1, 2, 10, 11, 12] [0] (fun k => [(13, .int .i64 (k : Int))]) (fun k => []) (fun k => k ≤ r.want.length ∧ headsGo r.all h r.want = headsGo r.all h (r.want.drop k)) (fun k => r.want.length - k) 0 ⟨rfl, trivial⟩ trivial ?_ ?_
  · exact ⟨Nat.zero_le _, rfl⟩
  · rintro k hp2
    obtain ⟨hk1, hk2⟩ := hp2
    refine go tbv22ok 6 rfl rfl trivial ?_
    refine cnd rfl (fun h3 => ?_) (fun h3 => ?_)
    · have p4 := dt h3
      obtain ⟨c5, hc6⟩ := getE (xs := r.want) (m := k) (by omega)
      have c5_w := Pair.pwf (w.1.2.2.1.2 c5 (List.mem_of_getElem? hc6))
      refine go tbv22ok 6 rfl rfl trivial ?_
      refine q1 (qidx tbv22ok k rfl rfl rfl hc6 rfl rfl rfl rfl) rfl fun w7 => ?_
      refine go tbv22ok 1 rfl rfl trivial ?_
      refine ef (alloc tbv22ok 1 rfl rfl rfl rfl fun b8 => ?_)
      refine ef (storeA tbv22ok rfl rfl rfl rfl rfl rfl rfl rfl rfl rfl ?_)
      refine go tbv22ok 7 rfl rfl trivial ?_
      refine call (head_Find _ _) rfl rfl fun w9 => ?_
      refine go tbv22ok 3 rfl rfl trivial ?_
      refine ef (alloc tbv22ok 2 rfl rfl rfl rfl fun b10 => ?_)
      refine ef (storeA tbv22ok rfl rfl rfl rfl rfl rfl rfl rfl rfl rfl ?_)
      refine go tbv22ok 9 rfl rfl trivial ?_
      refine q1g [26, 27] rfl (fun hc => saeq rfl rfl eqg118 (veq118 ((findP h c5.key).getD Pair.zero) c5)) ⟨(fun hc => hc), (fun hc => hc), trivial⟩ rfl rfl rfl fun _ => ?_
      refine go tbv22ok 15 rfl rfl ⟨rfl, rfl, (fun hc => hc), rfl, rfl, trivial⟩ ?_
      refine cnd rfl (fun h11 => ?_) (fun h11 => ?_)
      · have h12 := bl h11
        have h13 := bl h12
        have h14 := br h12
        have p15 := dt h14
        have h16 := br h11
        refine go tbv22ok 8 rfl rfl ⟨(by omega), trivial⟩ ?_
        refine next (k + 1) rfl rfl ⟨rfl, trivial⟩ trivial ?_ ?_
        · omega
        · refine ⟨by omega, ?_⟩
          rw [hk2, dropE hc6]
          simp only [headsGo]
          first | (simp only [hasP]; simp [*]; done) | (unfold hasP; simp_all; done) | (unfold hasP; grind)
      · refine go tbv22ok 6 rfl rfl trivial ?_
        refine cnd rfl (fun h17 => ?_) (fun h17 => ?_)
        · have h18 := bl h17
          have h19 := br h17
          have p20 := dt h19
          refine go tbv22ok 13 rfl rfl trivial ?_
          refine rt1 rfl rfl ?_
          refine ple ?_
          refine congrArg PV.bool ?_
          rw [hk2, dropE hc6]
          simp only [headsGo]
          first | (simp only [hasP]; simp [*]; done) | (unfold hasP; simp_all; done) | (unfold hasP; grind)
        · refine go tbv22ok 7 rfl rfl trivial ?_
          refine cnd rfl (fun h21 => ?_) (fun h21 => ?_)
          · refine go tbv22ok 13 rfl rfl trivial ?_
            refine rt1 rfl rfl ?_
            refine ple ?_
            refine congrArg PV.bool ?_
            rw [hk2, dropE hc6]
            simp only [headsGo]
            first | (simp only [hasP]; simp [*]; done) | (unfold hasP; simp_all; done) | (unfold hasP; grind)
          · refine go tbv22ok 8 rfl rfl ⟨(by omega), trivial⟩ ?_
            refine next (k + 1) rfl rfl ⟨rfl, trivial⟩ trivial ?_ ?_
            · omega
            · refine ⟨by omega, ?_⟩
              rw [hk2, dropE hc6]
              simp only [headsGo]
              first | (simp only [hasP]; simp [*]; done) | (unfold hasP; simp_all; done) | (unfold hasP; grind)
    · have p22 := df h3
      refine go tbv22ok 14 rfl rfl trivial ?_
      refine rt1 rfl rfl ?_
      refine ple ?_
      refine congrArg PV.bool ?_
      rw [hk2, List.drop_of_length_le (by omega)]
      rfl
theorem rule_Goes (r : Rule) (key : Bs) (h : List Pair) (hrk : r.key.length < 4294967281) (hk : key.length < 4294967281) : Fn Tryz.prog gb 109 [.agg (Rule.pc r), .str key, .sl Pair.pc h] (.bool (goesR r key h)) := by
  refine fn_cw tbv22ok Tryz.func109 rfl Tryz.ntmps109 rfl cb109 rfl rfl fun w N H hG => ?_
  have r_want_l : r.want.length ≤ 140737488355328 := w.1.2.2.1.1
  have key_l : key.length ≤ 9223372036854775807 := w.2.1
  have h_l : h.length ≤ 140737488355328 := w.2.2.1.1
  refine go tbv22ok 2 rfl rfl trivial ?_
  refine ef (boxA 0 rfl rfl rfl fun b1 => ?_)
  refine go tbv22ok 17 rfl rfl trivial ?_
  refine cnd rfl (fun h2 => ?_) (fun h2 => ?_)
  · have p3 := dt h2
    refine go tbv22ok 12 rfl rfl trivial ?_
    refine rt1 rfl rfl ?_
    refine ple ?_
    refine congrArg PV.bool ?_
    first | (simp [goesR, *]; done) | (simp [goesR, *]; omega)
  · have p4 := df h2
    refine go tbv22ok 6 rfl rfl trivial ?_
    refine cnd rfl (fun h5 => ?_) (fun h5 => ?_)
    · have p6 := dt h5
      refine go tbv22ok 5 rfl rfl trivial ?_
      refine call (words_Matches _ _ (by first | omega | (simp; done) | decide) (by first | omega | (simp; done) | decide)) rfl rfl fun w7 => ?_
      refine go tbv22ok 6 rfl rfl trivial ?_
      refine rt1 rfl rfl ?_
      refine ple ?_
      refine congrArg PV.bool ?_
      first | (simp [goesR, *]; done) | (simp [goesR, *]; omega)
    · have p8 := df h5
      refine go tbv22ok 6 rfl rfl trivial ?_
      refine cnd rfl (fun h9 => ?_) (fun h9 => ?_)
      · have p10 := dt h9
        refine go tbv22ok 4 rfl rfl trivial ?_
        refine call (rule_heads _ _) rfl rfl fun w11 => ?_
        refine go tbv22ok 6 rfl rfl trivial ?_
        refine rt1 rfl rfl ?_
        refine ple ?_
        refine congrArg PV.bool ?_
        first | (simp [goesR, *]; done) | (simp [goesR, *]; omega)
      · have p12 := df h9
        refine go tbv22ok 9 rfl rfl trivial ?_
        refine rt1 rfl rfl ?_
        refine ple ?_
        refine congrArg PV.bool ?_
        first | (simp [goesR, *]; done) | (simp [goesR, *]; omega)
end Go.SW.V
set_option linter.unusedVariables false
set_option maxRecDepth 100000
set_option maxHeartbeats 4000000
namespace Go.SW.V
open Go.SW Go.Proofs
theorem cb112 : Callable Tryz.prog 112 := callable_of Tryz.func112 (by kernel_rfl) (by kernel_rfl)
theorem cb113 : Callable Tryz.prog 113 := callable_of Tryz.func113 (by kernel_rfl) (by kernel_rfl)
theorem cb32 : Callable Tryz.prog 32 := callable_of Tryz.func32 (by kernel_rfl) (by kernel_rfl)
theorem cb51 : Callable Tryz.prog 51 := callable_of Tryz.func51 (by kernel_rfl) (by kernel_rfl)
theorem cb72 : Callable Tryz.prog 72 := callable_of Tryz.func72 (by kernel_rfl) (by kernel_rfl)
theorem cb89 : Callable Tryz.prog 89 := callable_of Tryz.func89 (by kernel_rfl) (by kernel_rfl)
theorem cb97 : Callable Tryz.prog 97 := callable_of Tryz.func97 (by kernel_rfl) (by kernel_rfl)
theorem cb98 : Callable Tryz.prog 98 := callable_of Tryz.func98 (by kernel_rfl) (by kernel_rfl)
def tbv25 : Tb := [(109, ⟨.agg [(0, 1), (1, 1)], 2, 24, [.str [], .int .i64 0]⟩),
  (144, ⟨.agg [(0, 1), (1, 1), (2, 1), (3, 1)], 4, 56, [.int .u8 0, .str [], .sl Pair.pc [], .bool false]⟩)]
theorem tbv25ok : tbB Tryz.prog tbv25 = true := by kernel_rfl
theorem l01_awake : Fn Tryz.prog gb 112 [] (.bool true) := by
  refine fn_cw tbv25ok Tryz.func112 rfl Tryz.ntmps112 rfl cb112 rfl rfl fun w N H hG => ?_
  refine go tbv25ok 8 rfl rfl trivial ?_
  refine call (out_Num (⟨[], 0⟩ : Out) _ _ (by first | omega | (have := hrl (by assumption); omega) | (simp [outNum, outRaw, numB_len, numK] <;> omega) | (have := hrl (by assumption); simp [outNum, outRaw, numB_len, numK] <;> omega))) rfl rfl fun w1 => ?_
  have nl0 : (⟨[], 0⟩ : Out).s.length = 0 := rfl
  have := outNum_len (⟨[], 0⟩ : Out) 258 2
  refine call (out_String _) rfl rfl fun w2 => ?_
  refine go tbv25ok 1 rfl rfl trivial ?_
  refine so_rt (t := 4) (p' := .bool true) (ple (congrArg PV.bool (show decide (((outNum (⟨[], 0⟩ : Out) 258 2).s) = [1, 2]) = true by decide +kernel))) rfl ?_
  refine go tbv25ok 1 rfl rfl trivial ?_
  refine ungd rfl rfl ?_
  refine go tbv25ok 1 rfl rfl trivial ?_
  refine ungd rfl rfl ?_
  refine call (out_Text (⟨[], 0⟩ : Out) _ (by first | omega | (have := hrl (by assumption); omega) | (simp [outNum, outRaw, numB_len, numK] <;> omega) | (have := hrl (by assumption); simp [outNum, outRaw, numB_len, numK] <;> omega))) rfl rfl fun w3 => ?_
  have nl0 : (⟨[], 0⟩ : Out).s.length = 0 := rfl
  have := outText_len (⟨[], 0⟩ : Out) [97, 98]
  refine ungd rfl rfl ?_
  refine call (out_String _) rfl rfl fun w4 => ?_
  refine ungd rfl rfl ?_
  refine go tbv25ok 1 rfl rfl trivial ?_
  refine so_rt (t := 9) (p' := .bool true) (ple (congrArg PV.bool (show decide (((outText (⟨[], 0⟩ : Out) [97, 98]).s) = [0, 2, 97, 98]) = true by decide +kernel))) rfl ?_
  refine go tbv25ok 2 rfl rfl trivial ?_
  refine ungd rfl rfl ?_
  refine ef (ecallb 0 (octet_New _) rfl rfl fun w5 b6 => ?_)
  refine ungd rfl rfl ?_
  refine ef (ecallm (in_Num (⟨[1, 2], 0⟩) _) rfl rfl rfl rfl rfl fun w7 w7p => ?_)
  have := inNum_r (⟨[1, 2], 0⟩) 2
  refine ungd rfl rfl ?_
  refine go tbv25ok 1 rfl rfl trivial ?_
  refine so_rt (t := 14) (p' := .bool true) (ple (congrArg PV.bool (show decide ((((inNum (⟨[1, 2], 0⟩) 2)).1) = 258) = true by decide +kernel))) rfl ?_
  refine go tbv25ok 5 rfl rfl trivial ?_
  refine rt1 rfl rfl ?_
  refine ple ?_
  exact congrArg PV.bool (by first | rfl | decide +kernel)
theorem l01_Awake : Fn Tryz.prog gb 97 [] (.bool true) := by
  refine fn_cw tbv25ok Tryz.func97 rfl Tryz.ntmps97 rfl cb97 rfl rfl fun w N H hG => ?_
  refine go tbv25ok 7 rfl rfl trivial ?_
  refine call l01_awake rfl rfl fun w1 => ?_
  refine go tbv25ok 4 rfl rfl trivial ?_
  refine rt1 rfl rfl ?_
  refine ple ?_
  rfl
theorem l04_awake : Fn Tryz.prog gb 113 [] (.bool true) := by
  refine fn_cw tbv25ok Tryz.func113 rfl Tryz.ntmps113 rfl cb113 rfl rfl fun w N H hG => ?_
  refine go tbv25ok 7 rfl rfl trivial ?_
  refine call (words_Matches _ _ (by first | omega | (simp; done) | decide) (by first | omega | (simp; done) | decide)) rfl rfl fun w1 => ?_
  refine so_rt (t := 1) (p' := .bool true) (ple (congrArg PV.bool (show mt (wordsOf [97, 46, 42, 46, 35]) (wordsOf [97, 46, 98]) = true by decide +kernel))) rfl ?_
  refine go tbv25ok 1 rfl rfl trivial ?_
  refine ungd rfl rfl ?_
  refine call (words_Matches _ _ (by first | omega | (simp; done) | decide) (by first | omega | (simp; done) | decide)) rfl rfl fun w2 => ?_
  refine so_rt (t := 3) (p' := .bool true) (ple (congrArg PV.bool (show mt (wordsOf [97, 46, 42, 46, 35]) (wordsOf [97, 46, 98, 46, 99, 46, 100]) = true by decide +kernel))) rfl ?_
  refine go tbv25ok 2 rfl rfl trivial ?_
  refine ungd rfl rfl ?_
  refine call (words_Matches _ _ (by first | omega | (simp; done) | decide) (by first | omega | (simp; done) | decide)) rfl rfl fun w3 => ?_
  refine so_rt (t := 6) (p' := .bool false) (ple (congrArg PV.bool (show mt (wordsOf [97, 46, 42, 46, 35]) (wordsOf [97]) = false by decide +kernel))) rfl ?_
  refine ungd rfl rfl ?_
  refine go tbv25ok 1 rfl rfl trivial ?_
  refine so_rt (t := 7) (p' := .bool true) (ple (congrArg PV.bool (show !false = true by decide +kernel))) rfl ?_
  refine go tbv25ok 2 rfl rfl trivial ?_
  refine ungd rfl rfl ?_
  refine call (words_Name _) rfl rfl fun w4 => ?_
  refine ungd rfl rfl ?_
  refine go tbv25ok 1 rfl rfl trivial ?_
  refine so_rt (t := 11) (p' := .bool true) (ple (congrArg PV.bool (show decide ((nameE [97, 45, 49]) = 0) = true by decide +kernel))) rfl ?_
  refine go tbv25ok 5 rfl rfl trivial ?_
  refine rt1 rfl rfl ?_
  refine ple ?_
  exact congrArg PV.bool (by first | rfl | decide +kernel)
theorem l04_Awake : Fn Tryz.prog gb 98 [] (.bool true) := by
  refine fn_cw tbv25ok Tryz.func98 rfl Tryz.ntmps98 rfl cb98 rfl rfl fun w N H hG => ?_
  refine go tbv25ok 7 rfl rfl trivial ?_
  refine call l04_awake rfl rfl fun w1 => ?_
  refine go tbv25ok 4 rfl rfl trivial ?_
  refine rt1 rfl rfl ?_
  refine ple ?_
  rfl
theorem l09_awake : Fn Tryz.prog gb 72 [] (.bool true) := by
  refine fn_cw tbv25ok Tryz.func72 rfl Tryz.ntmps72 rfl cb72 rfl rfl fun w N H hG => ?_
  refine go tbv25ok 7 rfl rfl trivial ?_
  refine call (Fn.le (head_Bytes []) (ples_cons ple_nil ples_nil) (ple rfl) rfl) rfl rfl fun w1 => ?_
  have := headBytes_len []
  refine go tbv25ok 9 rfl rfl trivial ?_
  refine call l01_Awake rfl rfl fun w2 => ?_
  refine go tbv25ok 1 rfl rfl trivial ?_
  refine ungd rfl rfl ?_
  refine call l04_Awake rfl rfl fun w3 => ?_
  refine go tbv25ok 2 rfl rfl trivial ?_
  refine ungd rfl rfl ?_
  refine go tbv25ok 1 rfl rfl trivial ?_
  refine ungd rfl rfl ?_
  refine go tbv25ok 1 rfl rfl trivial ?_
  refine so_rt (t := 13) (p' := .bool true) (ple (congrArg PV.bool (show decide ((headE []) = 0) = true by decide +kernel))) rfl ?_
  refine go tbv25ok 2 rfl rfl trivial ?_
  refine ungd rfl rfl ?_
  refine go tbv25ok 1 rfl rfl trivial ?_
  refine ungd rfl rfl ?_
  refine go tbv25ok 1 rfl rfl trivial ?_
  refine so_rt (t := 17) (p' := .bool true) (ple (congrArg PV.bool (show decide ((headBytes []) = [0]) = true by decide +kernel))) rfl ?_
  refine go tbv25ok 5 rfl rfl trivial ?_
  refine rt1 rfl rfl ?_
  refine ple ?_
  exact congrArg PV.bool (by first | rfl | decide +kernel)
theorem l09_Awake : Fn Tryz.prog gb 32 [] (.bool true) := by
  refine fn_cw tbv25ok Tryz.func32 rfl Tryz.ntmps32 rfl cb32 rfl rfl fun w N H hG => ?_
  refine go tbv25ok 7 rfl rfl trivial ?_
  refine call l09_awake rfl rfl fun w1 => ?_
  refine go tbv25ok 4 rfl rfl trivial ?_
  refine rt1 rfl rfl ?_
  refine ple ?_
  rfl
theorem l10_awake : Fn Tryz.prog gb 89 [] (.bool true) := by
  refine fn_cw tbv25ok Tryz.func89 rfl Tryz.ntmps89 rfl cb89 rfl rfl fun w N H hG => ?_
  refine go tbv25ok 8 rfl rfl trivial ?_
  refine ef (alloc tbv25ok 0 rfl rfl rfl rfl fun b1 => ?_)
  refine ef (storeA tbv25ok rfl rfl rfl rfl rfl rfl rfl rfl rfl rfl ?_)
  refine go tbv25ok 4 rfl rfl trivial ?_
  refine call l04_Awake rfl rfl fun w2 => ?_
  refine go tbv25ok 1 rfl rfl trivial ?_
  refine ungd rfl rfl ?_
  refine call l09_Awake rfl rfl fun w3 => ?_
  refine go tbv25ok 2 rfl rfl trivial ?_
  refine ungd rfl rfl ?_
  refine go tbv25ok 1 rfl rfl trivial ?_
  refine ungd rfl rfl ?_
  refine call (rule_Check (⟨2, [97, 46, 35], [], false⟩ : Rule)) rfl rfl fun w4 => ?_
  refine ungd rfl rfl ?_
  refine go tbv25ok 1 rfl rfl trivial ?_
  refine so_rt (t := 10) (p' := .bool true) (ple (congrArg PV.bool (show decide ((ruleE (⟨2, [97, 46, 35], [], false⟩ : Rule)) = 0) = true by decide +kernel))) rfl ?_
  refine go tbv25ok 2 rfl rfl trivial ?_
  refine ungd rfl rfl ?_
  refine go tbv25ok 1 rfl rfl trivial ?_
  refine ungd rfl rfl ?_
  refine call (Fn.le (rule_Goes (⟨2, [97, 46, 35], [], false⟩ : Rule) _ [] (by first | omega | (simp; done) | decide) (by first | omega | (simp; done) | decide)) (ples_cons (ple rfl) (ples_cons (ple rfl) (ples_cons ple_nil ples_nil))) (ple rfl) rfl) rfl rfl fun w5 => ?_
  refine so_rt (t := 14) (p' := .bool true) (ple (congrArg PV.bool (show goesR (⟨2, [97, 46, 35], [], false⟩ : Rule) [97, 46, 98] [] = true by decide +kernel))) rfl ?_
  refine go tbv25ok 2 rfl rfl trivial ?_
  refine ungd rfl rfl ?_
  refine go tbv25ok 1 rfl rfl trivial ?_
  refine ungd rfl rfl ?_
  refine call (Fn.le (rule_Goes (⟨2, [97, 46, 35], [], false⟩ : Rule) _ [] (by first | omega | (simp; done) | decide) (by first | omega | (simp; done) | decide)) (ples_cons (ple rfl) (ples_cons (ple rfl) (ples_cons ple_nil ples_nil))) (ple rfl) rfl) rfl rfl fun w6 => ?_
  refine so_rt (t := 18) (p' := .bool false) (ple (congrArg PV.bool (show goesR (⟨2, [97, 46, 35], [], false⟩ : Rule) [98] [] = false by decide +kernel))) rfl ?_
  refine ungd rfl rfl ?_
  refine go tbv25ok 1 rfl rfl trivial ?_
  refine so_rt (t := 19) (p' := .bool true) (ple (congrArg PV.bool (show !false = true by decide +kernel))) rfl ?_
  refine go tbv25ok 5 rfl rfl trivial ?_
  refine rt1 rfl rfl ?_
  refine ple ?_
  exact congrArg PV.bool (by first | rfl | decide +kernel)
theorem l10_Awake : Fn Tryz.prog gb 51 [] (.bool true) := by
  refine fn_cw tbv25ok Tryz.func51 rfl Tryz.ntmps51 rfl cb51 rfl rfl fun w N H hG => ?_
  refine go tbv25ok 7 rfl rfl trivial ?_
  refine call l10_awake rfl rfl fun w1 => ?_
  refine go tbv25ok 4 rfl rfl trivial ?_
  refine rt1 rfl rfl ?_
  refine ple ?_
  rfl
end Go.SW.V
set_option linter.unusedVariables false
set_option maxRecDepth 100000
set_option maxHeartbeats 4000000
namespace Go.SW.V
open Go.SW Go.Proofs
theorem cb107 : Callable Tryz.prog 107 := callable_of Tryz.func107 (by kernel_rfl) (by kernel_rfl)
theorem cb115 : Callable Tryz.prog 115 := callable_of Tryz.func115 (by kernel_rfl) (by kernel_rfl)
theorem cb50 : Callable Tryz.prog 50 := callable_of Tryz.func50 (by kernel_rfl) (by kernel_rfl)
theorem cb88 : Callable Tryz.prog 88 := callable_of Tryz.func88 (by kernel_rfl) (by kernel_rfl)
def tbv26 : Tb := [(9, ⟨.str, 1, 16, [.str []]⟩),
  (50, ⟨.agg [(0, 1), (1, 1), (2, 1)], 3, 24, [.int .u8 0, .int .u8 0, .str []]⟩),
  (119, ⟨.slc 9, 1, 24, [.sl strc []]⟩)]
theorem tbv26ok : tbB Tryz.prog tbv26 = true := by kernel_rfl
theorem l02_awake : Fn Tryz.prog gb 115 [] (.bool true) := by
  refine fn_cw tbv26ok Tryz.func115 rfl Tryz.ntmps115 rfl cb115 rfl rfl fun w N H hG => ?_
  refine go tbv26ok 7 rfl rfl trivial ?_
  refine ef (bsl 0 strc [[49, 50, 51, 52], [53, 54, 55, 56, 57]] tbv26ok rfl rfl rfl rfl rfl (fun _ => rfl) rfl (by decide) (by decide) rfl fun u1 => ?_)
  refine ef (calll 0 rfl (crc_Sum _) rfl rfl rfl fun w2 => ?_)
  have := crcSum_r [[49, 50, 51, 52], [53, 54, 55, 56, 57]]
  refine go tbv26ok 1 rfl rfl trivial ?_
  refine so_rt (t := 3) (p' := .bool true) (ple (congrArg PV.bool (show decide ((crcSum [[49, 50, 51, 52], [53, 54, 55, 56, 57]]) = 3421780262) = true by decide +kernel))) rfl ?_
  refine go tbv26ok 1 rfl rfl trivial ?_
  refine ungd rfl rfl ?_
  refine call (Fn.le (crc_Sum []) (ples_cons ple_nil ples_nil) (ple rfl) rfl) rfl rfl fun w3 => ?_
  have := crcSum_r []
  refine ungd rfl rfl ?_
  refine go tbv26ok 1 rfl rfl trivial ?_
  refine so_rt (t := 6) (p' := .bool true) (ple (congrArg PV.bool (show decide ((crcSum []) = 0) = true by decide +kernel))) rfl ?_
  refine go tbv26ok 5 rfl rfl trivial ?_
  refine rt1 rfl rfl ?_
  refine ple ?_
  exact congrArg PV.bool (by first | rfl | decide +kernel)
theorem l02_Awake : Fn Tryz.prog gb 107 [] (.bool true) := by
  refine fn_cw tbv26ok Tryz.func107 rfl Tryz.ntmps107 rfl cb107 rfl rfl fun w N H hG => ?_
  refine go tbv26ok 7 rfl rfl trivial ?_
  refine call l02_awake rfl rfl fun w1 => ?_
  refine go tbv26ok 4 rfl rfl trivial ?_
  refine rt1 rfl rfl ?_
  refine ple ?_
  rfl
theorem l07_awake : Fn Tryz.prog gb 88 [] (.bool true) := by
  refine fn_cw tbv26ok Tryz.func88 rfl Tryz.ntmps88 rfl cb88 rfl rfl fun w N H hG => ?_
  refine go tbv26ok 8 rfl rfl trivial ?_
  refine call (frame_Bytes (⟨1, 2, []⟩ : Frame)) rfl rfl fun w1 => ?_
  refine go tbv26ok 9 rfl rfl trivial ?_
  refine call l01_Awake rfl rfl fun w2 => ?_
  refine go tbv26ok 1 rfl rfl trivial ?_
  refine ungd rfl rfl ?_
  refine call l02_Awake rfl rfl fun w3 => ?_
  refine go tbv26ok 2 rfl rfl trivial ?_
  refine ungd rfl rfl ?_
  refine go tbv26ok 1 rfl rfl trivial ?_
  refine ungd rfl rfl ?_
  refine go tbv26ok 1 rfl rfl trivial ?_
  refine so_rt (t := 14) (p' := .bool true) (ple (congrArg PV.bool (show decide ((frameErr (⟨1, 2, []⟩ : Frame)) = 0) = true by decide +kernel))) rfl ?_
  refine go tbv26ok 2 rfl rfl trivial ?_
  refine ungd rfl rfl ?_
  refine go tbv26ok 1 rfl rfl trivial ?_
  refine ungd rfl rfl ?_
  refine go tbv26ok 1 rfl rfl trivial ?_
  refine ungd rfl rfl ?_
  refine go tbv26ok 1 rfl rfl trivial ?_
  refine so_rt (t := 19) (p' := .bool true) (ple (congrArg PV.bool (show decide (((frameBytes (⟨1, 2, []⟩ : Frame)).length : Int) = 9) = true by decide +kernel))) rfl ?_
  refine go tbv26ok 2 rfl rfl trivial ?_
  refine ungd rfl rfl ?_
  refine go tbv26ok 1 rfl rfl trivial ?_
  refine ungd rfl rfl ?_
  have := u8r ((frameBytes (⟨1, 2, []⟩ : Frame)).getD 8 0)
  refine q1 (sidx tbv26ok 8 rfl rfl rfl rfl rfl (by first | omega | decide +kernel)) rfl fun w4 => ?_
  refine ungd rfl rfl ?_
  refine go tbv26ok 1 rfl rfl trivial ?_
  refine so_rt (t := 24) (p' := .bool true) (ple (congrArg PV.bool (show decide ((((frameBytes (⟨1, 2, []⟩ : Frame)).getD 8 0).toNat : Int) = 206) = true by decide +kernel))) rfl ?_
  refine go tbv26ok 5 rfl rfl trivial ?_
  refine rt1 rfl rfl ?_
  refine ple ?_
  exact congrArg PV.bool (by first | rfl | decide +kernel)
theorem l07_Awake : Fn Tryz.prog gb 50 [] (.bool true) := by
  refine fn_cw tbv26ok Tryz.func50 rfl Tryz.ntmps50 rfl cb50 rfl rfl fun w N H hG => ?_
  refine go tbv26ok 7 rfl rfl trivial ?_
  refine call l07_awake rfl rfl fun w1 => ?_
  refine go tbv26ok 4 rfl rfl trivial ?_
  refine rt1 rfl rfl ?_
  refine ple ?_
  rfl
end Go.SW.V
set_option linter.unusedVariables false
set_option maxRecDepth 100000
set_option maxHeartbeats 4000000
namespace Go.SW.V
open Go.SW Go.Proofs
end Go.SW.V
set_option linter.unusedVariables false
set_option maxRecDepth 100000
set_option maxHeartbeats 4000000
namespace Go.SW.V
open Go.SW Go.Proofs
end Go.SW.V
set_option linter.unusedVariables false
set_option maxRecDepth 100000
set_option maxHeartbeats 4000000
namespace Go.SW.V
open Go.SW Go.Proofs
end Go.SW.V
set_option linter.unusedVariables false
set_option maxRecDepth 100000
set_option maxHeartbeats 4000000
namespace Go.SW.V
open Go.SW Go.Proofs
end Go.SW.V
set_option linter.unusedVariables false
set_option maxRecDepth 100000
set_option maxHeartbeats 4000000
namespace Go.SW.V
open Go.SW Go.Proofs
theorem cb110 : Callable Tryz.prog 110 := callable_of Tryz.func110 (by kernel_rfl) (by kernel_rfl)
theorem cb21 : Callable Tryz.prog 21 := callable_of Tryz.func21 (by kernel_rfl) (by kernel_rfl)
theorem cb53 : Callable Tryz.prog 53 := callable_of Tryz.func53 (by kernel_rfl) (by kernel_rfl)
theorem cb65 : Callable Tryz.prog 65 := callable_of Tryz.func65 (by kernel_rfl) (by kernel_rfl)
theorem cb93 : Callable Tryz.prog 93 := callable_of Tryz.func93 (by kernel_rfl) (by kernel_rfl)
theorem sz9 : Sz Tryz.prog 9 1 := fun w => by kernel_rfl
def tbv60 : Tb := [(4, ⟨.bool, 1, 1, [.bool false]⟩),
  (5, ⟨.int .u8, 1, 1, [.int .u8 0]⟩),
  (9, ⟨.str, 1, 16, [.str []]⟩),
  (25, ⟨.int .u64, 1, 8, [.int .u64 0]⟩),
  (26, ⟨.slc 118, 1, 24, [.sl Pair.pc []]⟩),
  (54, ⟨.agg [(0, 1), (1, 1), (2, 1), (3, 1), (4, 1), (5, 1), (6, 1), (7, 1), (8, 1), (9, 1)], 10, 120, [.int .u8 0, .int .u8 0, .str [], .str [], .str [], .sl Pair.pc [], .str [], .int .u64 0, .int .u64 0, .bool false]⟩),
  (57, ⟨.agg [(0, 1), (1, 1), (2, 1), (3, 1), (4, 1), (5, 1), (6, 1), (7, 1), (8, 1), (9, 1)], 10, 120, [.int .u8 0, .int .u8 0, .str [], .str [], .str [], .sl Pair.pc [], .str [], .int .u64 0, .int .u64 0, .bool false]⟩),
  (97, ⟨.agg [(0, 1), (1, 1), (2, 1), (3, 1), (4, 1), (5, 1), (6, 1), (7, 1), (8, 1), (9, 1)], 10, 10, [.bool false, .bool false, .bool false, .bool false, .bool false, .bool false, .bool false, .bool false, .bool false, .bool false]⟩)]
theorem tbv60ok : tbB Tryz.prog tbv60 = true := by kernel_rfl
theorem strings_ContainsAny (s cs : Bs) (hs : s.length < 4294967281) (hc : cs.length < 4294967281) (ha : ∀ c ∈ s, c.toNat < 128) (hb : ∀ c ∈ cs, c.toNat < 128) : Fn Tryz.prog gb 110 [.str s, .str cs] (.bool (hasAny s cs)) :=
  fn_of_pr (vs := [str s, str cs]) (v := .bool (hasAny s cs)) cb110 rfl rfl
    (fun w H => Sims.cons (Sim.str w.1) (Sims.cons (Sim.str w.2.1) Sims.nil))
    (fun w H => Sim.bool)
    (fun w H hG => SW.strings_ContainsAny H s cs hs hc ha hb)
theorem method_Method_tells_ok (m : Method) (letters : Bs) (hk : m.kind ≤ 20) (hll : letters.length < 4294967281) (hlp : ∀ c ∈ letters, c.toNat < 128) : Fn Tryz.prog gb 93 [.agg (Method.pc m), .str letters] (.bool (method_Method_tells m letters)) := by
  refine fn_cw tbv60ok Tryz.func93 rfl Tryz.ntmps93 rfl cb93 rfl rfl fun w N H hG => ?_
  have m_channel_r : 0 ≤ m.channel ∧ m.channel ≤ 255 := w.1.1
  have m_kind_r : 0 ≤ m.kind ∧ m.kind ≤ 255 := w.1.2.1
  have m_name_l : m.name.length ≤ 9223372036854775807 := w.1.2.2.1
  have m_other_l : m.other.length ≤ 9223372036854775807 := w.1.2.2.2.1
  have m_key_l : m.key.length ≤ 9223372036854775807 := w.1.2.2.2.2.1
  have m_head_l : m.head.length ≤ 140737488355328 := w.1.2.2.2.2.2.1.1
  have m_body_l : m.body.length ≤ 9223372036854775807 := w.1.2.2.2.2.2.2.1
  have m_n_r : 0 ≤ m.n ∧ m.n ≤ 18446744073709551615 := w.1.2.2.2.2.2.2.2.1
  have m_m_r : 0 ≤ m.m ∧ m.m ≤ 18446744073709551615 := w.1.2.2.2.2.2.2.2.2.1
  have letters_l : letters.length ≤ 9223372036854775807 := w.2.1
  have e0 := method_Method_tells.eq_1 m letters
  refine go tbv60ok 2 rfl rfl trivial ?_
  refine ef (boxA 0 rfl rfl rfl fun b1 => ?_)
  refine go tbv60ok 7 rfl rfl trivial ?_
  refine q1 (qgstr (m := (m.kind).toNat) tellsT (by decide) (fun _ h => gbTells h) rfl Tryz.underlying94 sz9 (by omega) (by omega) rfl) rfl fun w2 => ?_
  refine go tbv60ok 2 rfl rfl trivial ?_
  refine call (strings_ContainsAny _ _ (Nat.lt_of_le_of_lt (tells_len _) (by decide)) (by assumption) (tells_plain _) (by assumption)) rfl rfl fun w3 => ?_
  refine go tbv60ok 4 rfl rfl trivial ?_
  exact rt1 rfl rfl (ple_of (fun r : Bool => .bool r) e0 (ple rfl))
theorem method_Method_spare_ok (m : Method) (hk : m.kind ≤ 20) : Fn Tryz.prog gb 65 [.agg (Method.pc m)] (.bool (method_Method_spare m)) := by
  refine fn_cw tbv60ok Tryz.func65 rfl Tryz.ntmps65 rfl cb65 rfl rfl fun w N H hG => ?_
  have m_channel_r : 0 ≤ m.channel ∧ m.channel ≤ 255 := w.1.1
  have m_kind_r : 0 ≤ m.kind ∧ m.kind ≤ 255 := w.1.2.1
  have m_name_l : m.name.length ≤ 9223372036854775807 := w.1.2.2.1
  have m_other_l : m.other.length ≤ 9223372036854775807 := w.1.2.2.2.1
  have m_key_l : m.key.length ≤ 9223372036854775807 := w.1.2.2.2.2.1
  have m_head_l : m.head.length ≤ 140737488355328 := w.1.2.2.2.2.2.1.1
  have m_body_l : m.body.length ≤ 9223372036854775807 := w.1.2.2.2.2.2.2.1
  have m_n_r : 0 ≤ m.n ∧ m.n ≤ 18446744073709551615 := w.1.2.2.2.2.2.2.2.1
  have m_m_r : 0 ≤ m.m ∧ m.m ≤ 18446744073709551615 := w.1.2.2.2.2.2.2.2.2.1
  have e0 := method_Method_spare.eq_1 m
  refine go tbv60ok 2 rfl rfl trivial ?_
  refine ef (boxA 0 rfl rfl rfl fun b1 => ?_)
  refine go tbv60ok 19 rfl rfl trivial ?_
  refine callg rfl (fun hc => (method_Method_tells_ok _ _ (by omega) (by decide) (by decide))) rfl ⟨(fun hc => hc), trivial⟩ rfl rfl fun _ => ?_
  refine go tbv60ok 5 rfl rfl ⟨(fun hc => hc), rfl, rfl, trivial⟩ ?_
  refine cnd rfl (fun h2 => ?_) (fun h2 => ?_)
  · have h3 := bl h2
    have h4 := not_t h3
    have p5 := df h4
    have h6 := br h2
    have h7 := not_t h6
    have e8 := e0.trans (condT h2)
    refine go tbv60ok 2 rfl rfl trivial ?_
    refine cndT rfl h2 ?_
    refine go tbv60ok 17 rfl rfl trivial ?_
    exact rt1 rfl rfl (ple_of (fun r : Bool => .bool r) e8 (ple rfl))
  · have e9 := e0.trans (condF h2)
    refine go tbv60ok 7 rfl rfl trivial ?_
    refine callg rfl (fun hc => (method_Method_tells_ok _ _ (by omega) (by decide) (by decide))) rfl ⟨(fun hc => hc), trivial⟩ rfl rfl fun _ => ?_
    refine go tbv60ok 5 rfl rfl ⟨(fun hc => hc), rfl, rfl, trivial⟩ ?_
    refine cnd rfl (fun h10 => ?_) (fun h10 => ?_)
    · have h11 := bl h10
      have h12 := not_t h11
      have p13 := df h12
      have h14 := br h10
      have h15 := not_t h14
      have e16 := e9.trans (condT h10)
      refine go tbv60ok 2 rfl rfl trivial ?_
      refine cndT rfl h10 ?_
      refine go tbv60ok 17 rfl rfl trivial ?_
      exact rt1 rfl rfl (ple_of (fun r : Bool => .bool r) e16 (ple rfl))
    · have e17 := e9.trans (condF h10)
      refine go tbv60ok 6 rfl rfl trivial ?_
      refine callg rfl (fun hc => (method_Method_tells_ok _ _ (by omega) (by decide) (by decide))) rfl ⟨(fun hc => hc), trivial⟩ rfl rfl fun _ => ?_
      refine go tbv60ok 5 rfl rfl ⟨(fun hc => hc), rfl, rfl, trivial⟩ ?_
      refine cnd rfl (fun h18 => ?_) (fun h18 => ?_)
      · have h19 := bl h18
        have h20 := not_t h19
        have p21 := df h20
        have h22 := br h18
        have h23 := not_t h22
        have e24 := e17.trans (condT h18)
        refine go tbv60ok 17 rfl rfl trivial ?_
        exact rt1 rfl rfl (ple_of (fun r : Bool => .bool r) e24 (ple rfl))
      · have e25 := e17.trans (condF h18)
        refine go tbv60ok 12 rfl rfl trivial ?_
        refine callg rfl (fun hc => (method_Method_tells_ok _ _ (by omega) (by decide) (by decide))) rfl ⟨(fun hc => hc), trivial⟩ rfl rfl fun _ => ?_
        refine go tbv60ok 5 rfl rfl ⟨(fun hc => hc), rfl, rfl, trivial⟩ ?_
        refine cnd rfl (fun h26 => ?_) (fun h26 => ?_)
        · have h27 := bl h26
          have p28 := dt h27
          have h29 := br h26
          have h30 := not_t h29
          have e31 := e25.trans (condT h26)
          refine go tbv60ok 2 rfl rfl trivial ?_
          refine cndT rfl h26 ?_
          refine go tbv60ok 17 rfl rfl trivial ?_
          exact rt1 rfl rfl (ple_of (fun r : Bool => .bool r) e31 (ple rfl))
        · have e32 := e25.trans (condF h26)
          refine go tbv60ok 6 rfl rfl trivial ?_
          refine callg rfl (fun hc => (method_Method_tells_ok _ _ (by omega) (by decide) (by decide))) rfl ⟨(fun hc => hc), trivial⟩ rfl rfl fun _ => ?_
          refine go tbv60ok 5 rfl rfl ⟨(fun hc => hc), rfl, rfl, trivial⟩ ?_
          refine cnd rfl (fun h33 => ?_) (fun h33 => ?_)
          · have h34 := bl h33
            have h35 := not_t h34
            have p36 := df h35
            have h37 := br h33
            have h38 := not_t h37
            have e39 := e32.trans (condT h33)
            refine go tbv60ok 17 rfl rfl trivial ?_
            exact rt1 rfl rfl (ple_of (fun r : Bool => .bool r) e39 (ple rfl))
          · have e40 := e32.trans (condF h33)
            refine go tbv60ok 10 rfl rfl trivial ?_
            refine callg rfl (fun hc => (method_Method_tells_ok _ _ (by omega) (by decide) (by decide))) rfl ⟨(fun hc => hc), trivial⟩ rfl rfl fun _ => ?_
            refine go tbv60ok 5 rfl rfl ⟨(fun hc => hc), rfl, rfl, trivial⟩ ?_
            refine cnd rfl (fun h41 => ?_) (fun h41 => ?_)
            · have h42 := bl h41
              have h43 := not_t h42
              have p44 := df h43
              have h45 := br h41
              have h46 := not_t h45
              have e47 := e40.trans (condT h41)
              refine go tbv60ok 2 rfl rfl trivial ?_
              refine cndT rfl h41 ?_
              refine go tbv60ok 16 rfl rfl trivial ?_
              exact rt1 rfl rfl (ple_of (fun r : Bool => .bool r) e47 (ple rfl))
            · have e48 := e40.trans (condF h41)
              refine go tbv60ok 7 rfl rfl trivial ?_
              refine callg rfl (fun hc => (method_Method_tells_ok _ _ (by omega) (by decide) (by decide))) rfl ⟨(fun hc => hc), trivial⟩ rfl rfl fun _ => ?_
              refine go tbv60ok 5 rfl rfl ⟨(fun hc => hc), rfl, rfl, trivial⟩ ?_
              refine cnd rfl (fun h49 => ?_) (fun h49 => ?_)
              · have h50 := bl h49
                have h51 := not_t h50
                have p52 := df h51
                have h53 := br h49
                have h54 := not_t h53
                have e55 := e48.trans (condT h49)
                refine go tbv60ok 2 rfl rfl trivial ?_
                refine cndT rfl h49 ?_
                refine go tbv60ok 16 rfl rfl trivial ?_
                exact rt1 rfl rfl (ple_of (fun r : Bool => .bool r) e55 (ple rfl))
              · have e56 := e48.trans (condF h49)
                refine go tbv60ok 5 rfl rfl trivial ?_
                refine callg rfl (fun hc => (method_Method_tells_ok _ _ (by omega) (by decide) (by decide))) rfl ⟨(fun hc => hc), trivial⟩ rfl rfl fun _ => ?_
                refine go tbv60ok 5 rfl rfl ⟨(fun hc => hc), rfl, rfl, trivial⟩ ?_
                refine cnd rfl (fun h57 => ?_) (fun h57 => ?_)
                · have h58 := bl h57
                  have h59 := br h57
                  have h60 := not_t h59
                  have e61 := e56.trans (condT h57)
                  refine go tbv60ok 16 rfl rfl trivial ?_
                  exact rt1 rfl rfl (ple_of (fun r : Bool => .bool r) e61 (ple rfl))
                · have e62 := e56.trans (condF h57)
                  refine go tbv60ok 15 rfl rfl trivial ?_
                  exact rt1 rfl rfl (ple_of (fun r : Bool => .bool r) e62 (ple rfl))
theorem r11_Same_ok (a : Method) (b : Method) : Fn Tryz.prog gb 21 [.agg (Method.pc a), .agg (Method.pc b)] (.bool (r11_Same a b)) := by
  refine fn_cw tbv60ok Tryz.func21 rfl Tryz.ntmps21 rfl cb21 rfl rfl fun w N H hG => ?_
  have a_head_l : a.head.length ≤ 140737488355328 := w.1.2.2.2.2.2.1.1
  have b_head_l : b.head.length ≤ 140737488355328 := w.2.1.2.2.2.2.2.1.1
  have e0 := r11_Same.eq_1 a b
  refine go tbv60ok 2 rfl rfl trivial ?_
  refine ef (boxA 0 rfl rfl rfl fun b1 => ?_)
  refine ef (boxA 1 rfl rfl rfl fun b2 => ?_)
  refine go tbv60ok 43 rfl rfl ⟨(fun hc => hc), (fun hc => hc), (fun hc => hc), (fun hc => hc), rfl, rfl, (fun hc => hc), (fun hc => hc), (fun hc => hc), (fun hc => hc), rfl, rfl, (fun hc => hc), (fun hc => hc), (fun hc => hc), (fun hc => hc), rfl, rfl, (fun hc => hc), (fun hc => hc), (fun hc => hc), (fun hc => hc), rfl, rfl, (fun hc => hc), (fun hc => hc), trivial⟩ ?_
  refine callg rfl (fun hc => (r9_Same _ _)) rfl ⟨(fun hc => hc), (fun hc => hc), trivial⟩ rfl rfl fun _ => ?_
  refine go tbv60ok 33 rfl rfl ⟨rfl, rfl, (fun hc => hc), (fun hc => hc), (fun hc => hc), (fun hc => hc), rfl, rfl, (fun hc => hc), (fun hc => hc), (fun hc => hc), (fun hc => hc), rfl, rfl, (fun hc => hc), (fun hc => hc), (fun hc => hc), (fun hc => hc), rfl, rfl, (fun hc => hc), (fun hc => hc), (fun hc => hc), (fun hc => hc), rfl, rfl, trivial⟩ ?_
  exact rt1 rfl rfl (ple_of (fun r : Bool => .bool r) e0 (ple rfl))
theorem r11_Of_ok (kind : Int) : Fn Tryz.prog gb 53 [.int .u8 kind] (.agg (HasR.pc (r11_Of kind))) := by
  refine fn_cw tbv60ok Tryz.func53 rfl Tryz.ntmps53 rfl cb53 rfl rfl fun w N H hG => ?_
  have kind_r : 0 ≤ kind ∧ kind ≤ 255 := w.1
  have e0 := r11_Of.eq_1 kind
  refine go tbv60ok 2 rfl rfl trivial ?_
  refine ef (alloc tbv60ok 0 rfl rfl rfl rfl fun b1 => ?_)
  refine go tbv60ok 17 rfl rfl ⟨(fun hc => hc), rfl, rfl, (fun hc => hc), rfl, rfl, trivial⟩ ?_
  refine cnd rfl (fun h2 => ?_) (fun h2 => ?_)
  · have e3 := e0.trans (condT h2)
    refine go tbv60ok 3 rfl rfl trivial ?_
    refine ef (storeA tbv60ok rfl rfl rfl rfl rfl rfl rfl rfl rfl rfl ?_)
    refine go tbv60ok 4 rfl rfl trivial ?_
    exact rt1 rfl rfl (ple_of (fun r : HasR => .agg (HasR.pc r)) e3 (ple rfl))
  · have h4 := orl h2
    have h5 := orl h4
    have p6 := df h5
    have h7 := orr h4
    have p8 := df h7
    have h9 := orr h2
    have p10 := df h9
    have e11 := e0.trans (condF h2)
    refine go tbv60ok 9 rfl rfl trivial ?_
    refine cnd rfl (fun h12 => ?_) (fun h12 => ?_)
    · have p13 := dt h12
      have e14 := e11.trans (condT h12)
      refine go tbv60ok 3 rfl rfl trivial ?_
      refine ef (storeA tbv60ok rfl rfl rfl rfl rfl rfl rfl rfl rfl rfl ?_)
      refine go tbv60ok 4 rfl rfl trivial ?_
      exact rt1 rfl rfl (ple_of (fun r : HasR => .agg (HasR.pc r)) e14 (ple rfl))
    · have p15 := df h12
      have e16 := e11.trans (condF h12)
      refine go tbv60ok 17 rfl rfl ⟨(fun hc => hc), rfl, rfl, (fun hc => hc), rfl, rfl, trivial⟩ ?_
      refine cnd rfl (fun h17 => ?_) (fun h17 => ?_)
      · have e18 := e16.trans (condT h17)
        refine go tbv60ok 3 rfl rfl trivial ?_
        refine ef (storeA tbv60ok rfl rfl rfl rfl rfl rfl rfl rfl rfl rfl ?_)
        refine go tbv60ok 4 rfl rfl trivial ?_
        exact rt1 rfl rfl (ple_of (fun r : HasR => .agg (HasR.pc r)) e18 (ple rfl))
      · have h19 := orl h17
        have h20 := orl h19
        have p21 := df h20
        have h22 := orr h19
        have p23 := df h22
        have h24 := orr h17
        have p25 := df h24
        have e26 := e16.trans (condF h17)
        refine go tbv60ok 9 rfl rfl trivial ?_
        refine cnd rfl (fun h27 => ?_) (fun h27 => ?_)
        · have p28 := dt h27
          have e29 := e26.trans (condT h27)
          refine go tbv60ok 3 rfl rfl trivial ?_
          refine ef (storeA tbv60ok rfl rfl rfl rfl rfl rfl rfl rfl rfl rfl ?_)
          refine go tbv60ok 4 rfl rfl trivial ?_
          exact rt1 rfl rfl (ple_of (fun r : HasR => .agg (HasR.pc r)) e29 (ple rfl))
        · have p30 := df h27
          have e31 := e26.trans (condF h27)
          refine go tbv60ok 13 rfl rfl ⟨(fun hc => hc), rfl, rfl, trivial⟩ ?_
          refine cnd rfl (fun h32 => ?_) (fun h32 => ?_)
          · have h33 := bl h32
            have p34 := dt h33
            have h35 := br h32
            have p36 := dt h35
            have e37 := e31.trans (condT h32)
            refine go tbv60ok 3 rfl rfl trivial ?_
            refine ef (storeA tbv60ok rfl rfl rfl rfl rfl rfl rfl rfl rfl rfl ?_)
            refine go tbv60ok 4 rfl rfl trivial ?_
            exact rt1 rfl rfl (ple_of (fun r : HasR => .agg (HasR.pc r)) e37 (ple rfl))
          · have e38 := e31.trans (condF h32)
            refine go tbv60ok 9 rfl rfl trivial ?_
            refine cnd rfl (fun h39 => ?_) (fun h39 => ?_)
            · have p40 := dt h39
              have e41 := e38.trans (condT h39)
              refine go tbv60ok 3 rfl rfl trivial ?_
              refine ef (storeA tbv60ok rfl rfl rfl rfl rfl rfl rfl rfl rfl rfl ?_)
              refine go tbv60ok 4 rfl rfl trivial ?_
              exact rt1 rfl rfl (ple_of (fun r : HasR => .agg (HasR.pc r)) e41 (ple rfl))
            · have p42 := df h39
              have e43 := e38.trans (condF h39)
              refine go tbv60ok 9 rfl rfl trivial ?_
              refine cnd rfl (fun h44 => ?_) (fun h44 => ?_)
              · have p45 := dt h44
                have e46 := e43.trans (condT h44)
                refine go tbv60ok 3 rfl rfl trivial ?_
                refine ef (storeA tbv60ok rfl rfl rfl rfl rfl rfl rfl rfl rfl rfl ?_)
                refine go tbv60ok 4 rfl rfl trivial ?_
                exact rt1 rfl rfl (ple_of (fun r : HasR => .agg (HasR.pc r)) e46 (ple rfl))
              · have p47 := df h44
                have e48 := e43.trans (condF h44)
                refine go tbv60ok 9 rfl rfl trivial ?_
                refine cnd rfl (fun h49 => ?_) (fun h49 => ?_)
                · have p50 := dt h49
                  have e51 := e48.trans (condT h49)
                  refine go tbv60ok 3 rfl rfl trivial ?_
                  refine ef (storeA tbv60ok rfl rfl rfl rfl rfl rfl rfl rfl rfl rfl ?_)
                  refine go tbv60ok 4 rfl rfl trivial ?_
                  exact rt1 rfl rfl (ple_of (fun r : HasR => .agg (HasR.pc r)) e51 (ple rfl))
                · have p52 := df h49
                  have e53 := e48.trans (condF h49)
                  refine go tbv60ok 5 rfl rfl trivial ?_
                  refine ef (storeA tbv60ok rfl rfl rfl rfl rfl rfl rfl rfl rfl rfl ?_)
                  refine go tbv60ok 3 rfl rfl trivial ?_
                  exact rt1 rfl rfl (ple_of (fun r : HasR => .agg (HasR.pc r)) e53 (ple rfl))
end Go.SW.V
set_option linter.unusedVariables false
set_option maxRecDepth 100000
set_option maxHeartbeats 4000000
namespace Go.SW.V
open Go.SW Go.Proofs
theorem cb22 : Callable Tryz.prog 22 := callable_of Tryz.func22 (by kernel_rfl) (by kernel_rfl)
theorem cb26 : Callable Tryz.prog 26 := callable_of Tryz.func26 (by kernel_rfl) (by kernel_rfl)
theorem cb27 : Callable Tryz.prog 27 := callable_of Tryz.func27 (by kernel_rfl) (by kernel_rfl)
theorem cb57 : Callable Tryz.prog 57 := callable_of Tryz.func57 (by kernel_rfl) (by kernel_rfl)
theorem cb66 : Callable Tryz.prog 66 := callable_of Tryz.func66 (by kernel_rfl) (by kernel_rfl)
def tbv61 : Tb := [(3, ⟨.int .i64, 1, 8, [.int .i64 0]⟩),
  (4, ⟨.bool, 1, 1, [.bool false]⟩),
  (5, ⟨.int .u8, 1, 1, [.int .u8 0]⟩),
  (9, ⟨.str, 1, 16, [.str []]⟩),
  (25, ⟨.int .u64, 1, 8, [.int .u64 0]⟩),
  (26, ⟨.slc 118, 1, 24, [.sl Pair.pc []]⟩),
  (54, ⟨.agg [(0, 1), (1, 1), (2, 1), (3, 1), (4, 1), (5, 1), (6, 1), (7, 1), (8, 1), (9, 1)], 10, 120, [.int .u8 0, .int .u8 0, .str [], .str [], .str [], .sl Pair.pc [], .str [], .int .u64 0, .int .u64 0, .bool false]⟩),
  (57, ⟨.agg [(0, 1), (1, 1), (2, 1), (3, 1), (4, 1), (5, 1), (6, 1), (7, 1), (8, 1), (9, 1)], 10, 120, [.int .u8 0, .int .u8 0, .str [], .str [], .str [], .sl Pair.pc [], .str [], .int .u64 0, .int .u64 0, .bool false]⟩),
  (97, ⟨.agg [(0, 1), (1, 1), (2, 1), (3, 1), (4, 1), (5, 1), (6, 1), (7, 1), (8, 1), (9, 1)], 10, 10, [.bool false, .bool false, .bool false, .bool false, .bool false, .bool false, .bool false, .bool false, .bool false, .bool false]⟩),
  (101, ⟨.agg [(0, 1), (1, 1), (2, 1)], 3, 32, [.str [], .int .i64 0, .int .i64 0]⟩),
  (118, ⟨.agg [(0, 1), (1, 1), (2, 1), (3, 1)], 4, 48, [.str [], .int .u8 0, .int .i64 0, .str []]⟩)]
theorem tbv61ok : tbB Tryz.prog tbv61 = true := by kernel_rfl
theorem method_Method_one_ok (m : Method) (letter : Int) : Fn Tryz.prog gb 66 [.agg (Method.pc m), .int .i32 letter] (.int .i64 (method_Method_one m letter)) := by
  refine fn_cw tbv61ok Tryz.func66 rfl Tryz.ntmps66 rfl cb66 rfl rfl fun w N H hG => ?_
  have m_channel_r : 0 ≤ m.channel ∧ m.channel ≤ 255 := w.1.1
  have m_kind_r : 0 ≤ m.kind ∧ m.kind ≤ 255 := w.1.2.1
  have m_name_l : m.name.length ≤ 9223372036854775807 := w.1.2.2.1
  have m_other_l : m.other.length ≤ 9223372036854775807 := w.1.2.2.2.1
  have m_key_l : m.key.length ≤ 9223372036854775807 := w.1.2.2.2.2.1
  have m_head_l : m.head.length ≤ 140737488355328 := w.1.2.2.2.2.2.1.1
  have m_body_l : m.body.length ≤ 9223372036854775807 := w.1.2.2.2.2.2.2.1
  have m_n_r : 0 ≤ m.n ∧ m.n ≤ 18446744073709551615 := w.1.2.2.2.2.2.2.2.1
  have m_m_r : 0 ≤ m.m ∧ m.m ≤ 18446744073709551615 := w.1.2.2.2.2.2.2.2.2.1
  have letter_r : -2147483648 ≤ letter ∧ letter ≤ 2147483647 := w.2.1
  have e0 := method_Method_one.eq_1 m letter
  refine go tbv61ok 2 rfl rfl trivial ?_
  refine ef (boxA 0 rfl rfl rfl fun b1 => ?_)
  refine go tbv61ok 32 rfl rfl trivial ?_
  refine cnd rfl (fun h2 => ?_) (fun h2 => ?_)
  · have p3 := dt h2
    have e4 := e0.trans (condT h2)
    refine go tbv61ok 10 rfl rfl trivial ?_
    refine call (words_Name _) rfl rfl fun w5 => ?_
    refine go tbv61ok 19 rfl rfl trivial ?_
    exact rt1 rfl rfl (ple_of (fun r : Int => .int .i64 r) e4 (ple rfl))
  · have p6 := df h2
    have e7 := e0.trans (condF h2)
    refine go tbv61ok 9 rfl rfl trivial ?_
    refine cnd rfl (fun h8 => ?_) (fun h8 => ?_)
    · have p9 := dt h8
      have e10 := e7.trans (condT h8)
      refine go tbv61ok 14 rfl rfl trivial ?_
      refine cnd rfl (fun h11 => ?_) (fun h11 => ?_)
      · have p12 := dt h11
        have e13 := e10.trans (condT h11)
        refine go tbv61ok 18 rfl rfl trivial ?_
        exact rt1 rfl rfl (ple_of (fun r : Int => .int .i64 r) e13 (ple rfl))
      · have p14 := df h11
        have e15 := e10.trans (condF h11)
        refine go tbv61ok 8 rfl rfl trivial ?_
        refine call (words_Name _) rfl rfl fun w16 => ?_
        refine go tbv61ok 15 rfl rfl trivial ?_
        exact rt1 rfl rfl (ple_of (fun r : Int => .int .i64 r) e15 (ple rfl))
    · have p17 := df h8
      have e18 := e7.trans (condF h8)
      refine go tbv61ok 9 rfl rfl trivial ?_
      refine cnd rfl (fun h19 => ?_) (fun h19 => ?_)
      · have p20 := dt h19
        have e21 := e18.trans (condT h19)
        refine go tbv61ok 14 rfl rfl trivial ?_
        refine call (words_Name _) rfl rfl fun w22 => ?_
        refine go tbv61ok 15 rfl rfl trivial ?_
        exact rt1 rfl rfl (ple_of (fun r : Int => .int .i64 r) e21 (ple rfl))
      · have p23 := df h19
        have e24 := e18.trans (condF h19)
        refine go tbv61ok 9 rfl rfl trivial ?_
        refine cnd rfl (fun h25 => ?_) (fun h25 => ?_)
        · have p26 := dt h25
          have e27 := e24.trans (condT h25)
          refine go tbv61ok 16 rfl rfl trivial ?_
          refine call (words_Key _) rfl rfl fun w28 => ?_
          refine go tbv61ok 13 rfl rfl trivial ?_
          exact rt1 rfl rfl (ple_of (fun r : Int => .int .i64 r) e27 (ple rfl))
        · have p29 := df h25
          have e30 := e24.trans (condF h25)
          refine go tbv61ok 9 rfl rfl trivial ?_
          refine cnd rfl (fun h31 => ?_) (fun h31 => ?_)
          · have p32 := dt h31
            have e33 := e30.trans (condT h31)
            refine go tbv61ok 18 rfl rfl trivial ?_
            refine call (words_Pattern _) rfl rfl fun w34 => ?_
            refine go tbv61ok 11 rfl rfl trivial ?_
            exact rt1 rfl rfl (ple_of (fun r : Int => .int .i64 r) e33 (ple rfl))
          · have p35 := df h31
            have e36 := e30.trans (condF h31)
            refine go tbv61ok 9 rfl rfl trivial ?_
            refine cnd rfl (fun h37 => ?_) (fun h37 => ?_)
            · have p38 := dt h37
              have e39 := e36.trans (condT h37)
              refine go tbv61ok 20 rfl rfl trivial ?_
              refine call (head_Check _) rfl rfl fun w40 => ?_
              refine go tbv61ok 9 rfl rfl trivial ?_
              exact rt1 rfl rfl (ple_of (fun r : Int => .int .i64 r) e39 (ple rfl))
            · have p41 := df h37
              have e42 := e36.trans (condF h37)
              refine go tbv61ok 8 rfl rfl trivial ?_
              refine cnd rfl (fun h43 => ?_) (fun h43 => ?_)
              · have p44 := dt h43
                have e45 := e42.trans (condT h43)
                refine go tbv61ok 25 rfl rfl trivial ?_
                refine cnd rfl (fun h46 => ?_) (fun h46 => ?_)
                · have p47 := dt h46
                  have e48 := e45.trans (condT h46)
                  refine go tbv61ok 9 rfl rfl trivial ?_
                  exact rt1 rfl rfl (ple_of (fun r : Int => .int .i64 r) e48 (ple rfl))
                · have p49 := df h46
                  have e50 := e45.trans (condF h46)
                  refine go tbv61ok 11 rfl rfl trivial ?_
                  exact rt1 rfl rfl (ple_of (fun r : Int => .int .i64 r) e50 (ple rfl))
              · have p51 := df h43
                have e52 := e42.trans (condF h43)
                refine go tbv61ok 25 rfl rfl trivial ?_
                exact rt1 rfl rfl (ple_of (fun r : Int => .int .i64 r) e52 (ple rfl))
theorem method_Method_Check_ok (m : Method) : Fn Tryz.prog gb 27 [.agg (Method.pc m)] (.int .i64 (method_Method_Check m)) := by
  refine fn_cw tbv61ok Tryz.func27 rfl Tryz.ntmps27 rfl cb27 rfl rfl fun w N H hG => ?_
  have m_channel_r : 0 ≤ m.channel ∧ m.channel ≤ 255 := w.1.1
  have m_kind_r : 0 ≤ m.kind ∧ m.kind ≤ 255 := w.1.2.1
  have m_name_l : m.name.length ≤ 9223372036854775807 := w.1.2.2.1
  have m_other_l : m.other.length ≤ 9223372036854775807 := w.1.2.2.2.1
  have m_key_l : m.key.length ≤ 9223372036854775807 := w.1.2.2.2.2.1
  have m_head_l : m.head.length ≤ 140737488355328 := w.1.2.2.2.2.2.1.1
  have m_body_l : m.body.length ≤ 9223372036854775807 := w.1.2.2.2.2.2.2.1
  have m_n_r : 0 ≤ m.n ∧ m.n ≤ 18446744073709551615 := w.1.2.2.2.2.2.2.2.1
  have m_m_r : 0 ≤ m.m ∧ m.m ≤ 18446744073709551615 := w.1.2.2.2.2.2.2.2.2.1
  have e0 := method_Method_Check.eq_1 m
  refine go tbv61ok 2 rfl rfl trivial ?_
  refine ef (boxA 0 rfl rfl rfl fun b1 => ?_)
  refine go tbv61ok 13 rfl rfl trivial ?_
  refine cnd rfl (fun h2 => ?_) (fun h2 => ?_)
  · have p3 := dt h2
    have e4 := e0.trans (condT h2)
    refine go tbv61ok 8 rfl rfl trivial ?_
    exact rt1 rfl rfl (ple_of (fun r : Int => .int .i64 r) e4 (ple rfl))
  · have p5 := df h2
    have e6 := e0.trans (condF h2)
    refine go tbv61ok 3 rfl rfl trivial ?_
    refine call (method_Method_spare_ok _ (by omega)) rfl rfl fun w7 => ?_
    refine go tbv61ok 3 rfl rfl trivial ?_
    refine cnd rfl (fun h8 => ?_) (fun h8 => ?_)
    · have e9 := e6.trans (condT h8)
      refine go tbv61ok 8 rfl rfl trivial ?_
      exact rt1 rfl rfl (ple_of (fun r : Int => .int .i64 r) e9 (ple rfl))
    · have e10 := e6.trans (condF h8)
      refine go tbv61ok 8 rfl rfl trivial ?_
      refine q1 (qgstr (m := (m.kind).toNat) tellsT (by decide) (fun _ h => gbTells h) rfl Tryz.underlying94 sz9 (by omega) (by omega) rfl) rfl fun w11 => ?_
      refine go tbv61ok 1 rfl rfl trivial ?_
      refine ef (erange tbv61ok 1 rfl rfl rfl rfl fun b12 => ?_)
      refine go tbv61ok 3 rfl rfl trivial ?_
      refine loop (ι := Nat) [1, 17] [0] (fun k => []) (fun k => [(1, .itr b12 (tellsT.getD (m.kind).toNat []) k)]) (fun k => k ≤ (tellsT.getD (m.kind).toNat []).length ∧ method_Method_Check m = method_Method_Check_l0 m ((tellsT.getD (m.kind).toNat []).drop k) ) (fun k => (tellsT.getD (m.kind).toNat []).length - k) 0 trivial ⟨rfl, trivial⟩ ?_ ?_
      · exact ⟨Nat.zero_le _, e10⟩
      · rintro k ⟨hp13_1, hp13_2⟩
        refine go tbv61ok 2 rfl rfl trivial ?_
        have u8_hn14 := u8r ((tellsT.getD (m.kind).toNat []).getD k 0)
        refine hnext rfl rfl rfl rfl (by have : (tellsT.getD (m.kind).toNat []).length ≤ 5 := tells_len m.kind; omega) (fun hn14 => (tells_at _ _ hn14)) rfl (fun hn14 => ?_) (fun hn14 => ?_)
        · have e15 := lstep (f := fun zz => method_Method_Check_l0 m zz ) hp13_2 (drop_getD hn14) (method_Method_Check_l0.eq_2 _ _ _)
          refine go tbv61ok 18 rfl rfl trivial ?_
          refine callv (method_Method_one m (((tellsT.getD (m.kind).toNat []).getD k 0).toNat : Int)) (fun r : Int => .int .i64 r) (method_Method_one_ok _ _) rfl rfl fun r hr16 w17 => ?_
          have e18 := e15.trans (lt_eq hr16)
          refine go tbv61ok 9 rfl rfl trivial ?_
          refine cnd rfl (fun h19 => ?_) (fun h19 => ?_)
          · have h20 := not_t h19
            have p21 := df h20
            have e22 := e18.trans (condT h19)
            refine go tbv61ok 11 rfl rfl trivial ?_
            exact rt1 rfl rfl (ple_of (fun r : Int => .int .i64 r) e22 (ple rfl))
          · have h23 := not_f h19
            have p24 := dt h23
            have e25 := e18.trans (condF h19)
            refine go tbv61ok 2 rfl rfl trivial ?_
            refine next (k + 1) rfl rfl trivial ⟨rfl, trivial⟩ ?_ ?_
            · (try simp only []); omega
            · exact ⟨by (try simp only []); omega, e25⟩
        · have e26 := lstep (f := fun zz => method_Method_Check_l0 m zz ) hp13_2 (dropN hn14) (method_Method_Check_l0.eq_1 _)
          refine go tbv61ok 16 rfl rfl trivial ?_
          exact rt1 rfl rfl (ple_of (fun r : Int => .int .i64 r) e26 (ple rfl))
theorem l11_To_ok (m : Method) (hl : m.head.length ≤ 1000000) : Fn Tryz.prog gb 22 [.agg (Method.pc m)] (.agg (Method.pc (l11_To m))) := by
  refine fn_cw tbv61ok Tryz.func22 rfl Tryz.ntmps22 rfl cb22 rfl rfl fun w N H hG => ?_
  have m_head_l : m.head.length ≤ 140737488355328 := w.1.2.2.2.2.2.1.1
  have e0 := l11_To.eq_1 m
  refine go tbv61ok 2 rfl rfl trivial ?_
  refine ef (boxA 0 rfl rfl rfl fun b1 => ?_)
  refine ef (alloc tbv61ok 1 rfl rfl rfl rfl fun b2 => ?_)
  refine go tbv61ok 5 rfl rfl trivial ?_
  refine ef (alloc tbv61ok 2 rfl rfl rfl rfl fun b3 => ?_)
  refine ef (storeA tbv61ok rfl rfl rfl rfl rfl rfl rfl rfl rfl rfl ?_)
  refine go tbv61ok 4 rfl rfl trivial ?_
  refine ef (bsl 3 Pair.pc [] tbv61ok rfl rfl rfl rfl rfl (fun _ => rfl) rfl (by decide) (by decide) rfl fun u4 => ?_)
  refine go tbv61ok 2 rfl rfl trivial ?_
  refine ef (app tbv61ok m.head rfl rfl rfl rfl rfl rfl rfl rfl rfl (src_l rfl (fun _ => rfl)) (by first | omega | (simp; omega)) rfl fun u5 => ?_)
  refine go tbv61ok 1 rfl rfl trivial ?_
  refine give 3 rfl ?_
  refine ef (store1 tbv61ok rfl rfl rfl rfl rfl rfl rfl rfl rfl ?_)
  refine go tbv61ok 5 rfl rfl trivial ?_
  refine ef (storeA tbv61ok rfl rfl rfl rfl rfl rfl rfl rfl rfl rfl ?_)
  refine go tbv61ok 3 rfl rfl trivial ?_
  exact rt1 rfl rfl (ple_of (fun r : Method => .agg (Method.pc r)) e0 (ple rfl))
theorem r11_Check_ok (m : Method) : Fn Tryz.prog gb 26 [.agg (Method.pc m)] (.int .i64 (r11_Check m)) := by
  refine fn_cw tbv61ok Tryz.func26 rfl Tryz.ntmps26 rfl cb26 rfl rfl fun w N H hG => ?_
  have m_head_l : m.head.length ≤ 140737488355328 := w.1.2.2.2.2.2.1.1
  have e0 := r11_Check.eq_1 m
  refine go tbv61ok 2 rfl rfl trivial ?_
  refine ef (boxA 0 rfl rfl rfl fun b1 => ?_)
  refine go tbv61ok 11 rfl rfl trivial ?_
  refine cnd rfl (fun h2 => ?_) (fun h2 => ?_)
  · have p3 := dt h2
    have e4 := e0.trans (condT h2)
    refine go tbv61ok 7 rfl rfl trivial ?_
    exact rt1 rfl rfl (ple_of (fun r : Int => .int .i64 r) e4 (ple rfl))
  · have p5 := df h2
    have e6 := e0.trans (condF h2)
    refine go tbv61ok 6 rfl rfl trivial ?_
    refine callv (r11_Of m.kind) (fun r : HasR => .agg (HasR.pc r)) (r11_Of_ok _) rfl rfl fun r hr7 w8 => ?_
    have e9 := e6.trans (lt_eq hr7)
    refine ef (alloc tbv61ok 1 rfl rfl rfl rfl fun b10 => ?_)
    refine ef (storeA tbv61ok rfl rfl rfl rfl rfl rfl rfl rfl rfl rfl ?_)
    refine go tbv61ok 85 rfl rfl ⟨(fun hc => hc), (fun hc => hc), rfl, rfl, (fun hc => hc), (fun hc => hc), (fun hc => hc), (fun hc => hc), (fun hc => hc), (fun hc => hc), (fun hc => (by rw [hc]; rfl)), (fun hc => rfl), rfl, rfl, (fun hc => hc), (fun hc => hc), (fun hc => hc), (fun hc => hc), (fun hc => hc), (fun hc => hc), (fun hc => (by rw [hc]; rfl)), (fun hc => rfl), rfl, rfl, (fun hc => hc), (fun hc => hc), (fun hc => hc), (fun hc => hc), (fun hc => hc), (fun hc => hc), (fun hc => hc), (fun hc => (by rw [hc]; rfl)), (fun hc => rfl), rfl, rfl, (fun hc => hc), (fun hc => hc), (fun hc => hc), (fun hc => hc), (fun hc => hc), (fun hc => hc), (fun hc => (by rw [hc]; rfl)), (fun hc => rfl), rfl, rfl, (fun hc => hc), (fun hc => hc), (fun hc => hc), (fun hc => hc), (fun hc => hc), (fun hc => hc), (fun hc => (by rw [hc]; rfl)), (fun hc => rfl), rfl, rfl, (fun hc => hc), (fun hc => hc), (fun hc => hc), (fun hc => hc), (fun hc => hc), (fun hc => hc), (fun hc => (by rw [hc]; rfl)), (fun hc => rfl), rfl, rfl, (fun hc => hc), (fun hc => hc), (fun hc => hc), (fun hc => hc), (fun hc => hc), (fun hc => (by rw [hc]; rfl)), (fun hc => rfl), rfl, rfl, trivial⟩ ?_
    refine cnd rfl (fun h11 => ?_) (fun h11 => ?_)
    · have e12 := e9.trans (condT h11)
      refine go tbv61ok 7 rfl rfl trivial ?_
      exact rt1 rfl rfl (ple_of (fun r : Int => .int .i64 r) e12 (ple rfl))
    · have h13 := orl h11
      have h14 := orl h13
      have h15 := orl h14
      have h16 := orl h15
      have h17 := orl h16
      have h18 := orl h17
      have h19 := orl h18
      have h20 := orr h18
      have h21 := orr h17
      have h22 := orr h16
      have h23 := orr h15
      have h24 := orr h14
      have h25 := orr h13
      have h26 := orr h11
      have e27 := e9.trans (condF h11)
      refine go tbv61ok 8 rfl rfl trivial ?_
      obtain ⟨o, e_o, q_o⟩ := lt1_split e27
      refine joinc (ι := Int) [1, 2, 3] [0, 1] (fun e_1 => [(4, .int .i64 e_1)]) (fun e_1 => []) (fun e_1 => o = e_1) ?_ ?_
      · refine go tbv61ok 6 rfl rfl trivial ?_
        refine cnd rfl (fun h28 => ?_) (fun h28 => ?_)
        · have e29 := e_o.trans (condT h28)
          refine go tbv61ok 3 rfl rfl trivial ?_
          refine call (r4_Name _) rfl rfl fun w30 => ?_
          refine go tbv61ok 2 rfl rfl trivial ?_
          refine next (nameE m.name) rfl rfl ⟨rfl, trivial⟩ trivial (by decide) ?_
          exact e29
        · have e31 := e_o.trans (condF h28)
          refine go tbv61ok 1 rfl rfl trivial ?_
          refine next 0 rfl rfl ⟨rfl, trivial⟩ trivial (by decide) ?_
          exact e31
      · rintro e_1 hp32
        have e33 := lt1_fin q_o hp32
        refine go tbv61ok 2 rfl rfl trivial ?_
        obtain ⟨o1, e_o1, q_o1⟩ := lt1_split e33
        refine joinc (ι := Int) [1, 2, 3] [0, 1] (fun e_2 => [(4, .int .i64 e_2)]) (fun e_2 => []) (fun e_2 => o1 = e_2) ?_ ?_
        · refine go tbv61ok 20 rfl rfl ⟨(fun hc => hc), rfl, rfl, (fun hc => hc), (fun hc => hc), (fun hc => hc), (fun hc => hc), (fun hc => hc), (fun hc => (by rw [hc]; rfl)), (fun hc => rfl), (fun hc => hc), rfl, rfl, trivial⟩ ?_
          refine cnd rfl (fun h34 => ?_) (fun h34 => ?_)
          · have h35 := bl h34
            have h36 := bl h35
            have p37 := dt h36
            have h38 := br h35
            have h39 := br h34
            have h40 := not_t h39
            have e41 := e_o1.trans (condT h34)
            refine go tbv61ok 3 rfl rfl trivial ?_
            refine call (r4_Name _) rfl rfl fun w42 => ?_
            refine go tbv61ok 2 rfl rfl trivial ?_
            refine next (nameE m.other) rfl rfl ⟨rfl, trivial⟩ trivial (by decide) ?_
            exact e41
          · have e43 := e_o1.trans (condF h34)
            refine go tbv61ok 1 rfl rfl trivial ?_
            refine next e_1 rfl rfl ⟨rfl, trivial⟩ trivial (by decide) ?_
            exact e43
        · rintro e_2 hp44
          have e45 := lt1_fin q_o1 hp44
          refine go tbv61ok 2 rfl rfl trivial ?_
          obtain ⟨o2, e_o2, q_o2⟩ := lt1_split e45
          refine joinc (ι := Int) [1, 2, 3] [0, 1] (fun e_3 => [(4, .int .i64 e_3)]) (fun e_3 => []) (fun e_3 => o2 = e_3) ?_ ?_
          · refine go tbv61ok 10 rfl rfl ⟨(fun hc => hc), rfl, rfl, trivial⟩ ?_
            refine cnd rfl (fun h46 => ?_) (fun h46 => ?_)
            · have h47 := bl h46
              have p48 := dt h47
              have h49 := br h46
              have e50 := e_o2.trans (condT h46)
              refine go tbv61ok 5 rfl rfl trivial ?_
              refine call (r4_Key _ _) rfl rfl fun w51 => ?_
              refine go tbv61ok 2 rfl rfl trivial ?_
              refine next (keyE (besidesOf r.pattern) m.key) rfl rfl ⟨rfl, trivial⟩ trivial (by decide) ?_
              exact e50
            · have e52 := e_o2.trans (condF h46)
              refine go tbv61ok 1 rfl rfl trivial ?_
              refine next e_2 rfl rfl ⟨rfl, trivial⟩ trivial (by decide) ?_
              exact e52
          · rintro e_3 hp53
            have e54 := lt1_fin q_o2 hp53
            refine go tbv61ok 2 rfl rfl trivial ?_
            obtain ⟨o3, e_o3, q_o3⟩ := lt1_split e54
            refine joinc (ι := Int) [1, 2] [0, 1] (fun e_4 => [(4, .int .i64 e_4)]) (fun e_4 => []) (fun e_4 => o3 = e_4) ?_ ?_
            · refine go tbv61ok 10 rfl rfl ⟨(fun hc => hc), rfl, rfl, trivial⟩ ?_
              refine cnd rfl (fun h55 => ?_) (fun h55 => ?_)
              · have h56 := bl h55
                have p57 := dt h56
                have h58 := br h55
                have e59 := e_o3.trans (condT h55)
                refine go tbv61ok 3 rfl rfl trivial ?_
                refine call (r9_Check _) rfl rfl fun w60 => ?_
                refine go tbv61ok 2 rfl rfl trivial ?_
                refine next (headE m.head) rfl rfl ⟨rfl, trivial⟩ trivial (by decide) ?_
                exact e59
              · have e61 := e_o3.trans (condF h55)
                refine go tbv61ok 1 rfl rfl trivial ?_
                refine next e_3 rfl rfl ⟨rfl, trivial⟩ trivial (by decide) ?_
                exact e61
            · rintro e_4 hp62
              have e63 := lt1_fin q_o3 hp62
              refine go tbv61ok 14 rfl rfl ⟨(fun hc => hc), (fun hc => hc), (fun hc => hc), rfl, rfl, trivial⟩ ?_
              refine cnd rfl (fun h64 => ?_) (fun h64 => ?_)
              · have h65 := bl h64
                have p66 := dt h65
                have h67 := br h64
                have p68 := dt h67
                have e69 := e63.trans (condT h64)
                refine go tbv61ok 11 rfl rfl trivial ?_
                exact rt1 rfl rfl (ple_of (fun r : Int => .int .i64 r) e69 (ple rfl))
              · have e70 := e63.trans (condF h64)
                refine go tbv61ok 9 rfl rfl trivial ?_
                exact rt1 rfl rfl (ple_of (fun r : Int => .int .i64 r) e70 (ple rfl))
theorem r01_In_Fail_ok (i : RIn) (code : Int) : Fm Tryz.prog gb 57 [.int .i64 code] 101 (RIn.pc i) (.tup []) (RIn.pc (r01_In_Fail i code)) := by
  refine fm_cw tbv61ok Tryz.func57 rfl Tryz.ntmps57 rfl cb57 rfl rfl rfl rfl fun w wp b N H hG => ?_
  have code_r : -9223372036854775808 ≤ code ∧ code ≤ 9223372036854775807 := w.1
  have i_s_l : i.s.length ≤ 9223372036854775807 := wp.1
  have i_pos_r : -9223372036854775808 ≤ i.pos ∧ i.pos ≤ 9223372036854775807 := wp.2.1
  have i_code_r : -9223372036854775808 ≤ i.code ∧ i.code ≤ 9223372036854775807 := wp.2.2.1
  have e0 := r01_In_Fail.eq_1 i code
  refine go tbv61ok 9 rfl rfl trivial ?_
  refine cnd rfl (fun h1 => ?_) (fun h1 => ?_)
  · have p2 := dt h1
    have e3 := e0.trans (condT h1)
    refine go tbv61ok 5 rfl rfl trivial ?_
    refine ef (store1 tbv61ok rfl rfl rfl rfl rfl rfl rfl rfl rfl ?_)
    refine go tbv61ok 1 rfl rfl trivial ?_
    exact rm0n rfl rfl (ple_of (fun _ => .tup []) e3 (ple rfl)) rfl rfl rfl (ples_of (fun r : RIn => RIn.pc r) e3 (ples rfl))
  · have p4 := df h1
    have e5 := e0.trans (condF h1)
    refine go tbv61ok 1 rfl rfl trivial ?_
    exact rm0n rfl rfl (ple_of (fun _ => .tup []) e5 (ple rfl)) rfl rfl rfl (ples_of (fun r : RIn => RIn.pc r) e5 (ples rfl))
end Go.SW.V
set_option linter.unusedVariables false
set_option maxRecDepth 100000
set_option maxHeartbeats 4000000
namespace Go.SW.V
open Go.SW Go.Proofs
theorem cb23 : Callable Tryz.prog 23 := callable_of Tryz.func23 (by kernel_rfl) (by kernel_rfl)
theorem cb90 : Callable Tryz.prog 90 := callable_of Tryz.func90 (by kernel_rfl) (by kernel_rfl)
def tbv62 : Tb := [(3, ⟨.int .i64, 1, 8, [.int .i64 0]⟩),
  (4, ⟨.bool, 1, 1, [.bool false]⟩),
  (5, ⟨.int .u8, 1, 1, [.int .u8 0]⟩),
  (9, ⟨.str, 1, 16, [.str []]⟩),
  (25, ⟨.int .u64, 1, 8, [.int .u64 0]⟩),
  (26, ⟨.slc 118, 1, 24, [.sl Pair.pc []]⟩),
  (50, ⟨.agg [(0, 1), (1, 1), (2, 1)], 3, 24, [.int .u8 0, .int .u8 0, .str []]⟩),
  (54, ⟨.agg [(0, 1), (1, 1), (2, 1), (3, 1), (4, 1), (5, 1), (6, 1), (7, 1), (8, 1), (9, 1)], 10, 120, [.int .u8 0, .int .u8 0, .str [], .str [], .str [], .sl Pair.pc [], .str [], .int .u64 0, .int .u64 0, .bool false]⟩),
  (57, ⟨.agg [(0, 1), (1, 1), (2, 1), (3, 1), (4, 1), (5, 1), (6, 1), (7, 1), (8, 1), (9, 1)], 10, 120, [.int .u8 0, .int .u8 0, .str [], .str [], .str [], .sl Pair.pc [], .str [], .int .u64 0, .int .u64 0, .bool false]⟩),
  (97, ⟨.agg [(0, 1), (1, 1), (2, 1), (3, 1), (4, 1), (5, 1), (6, 1), (7, 1), (8, 1), (9, 1)], 10, 10, [.bool false, .bool false, .bool false, .bool false, .bool false, .bool false, .bool false, .bool false, .bool false, .bool false]⟩),
  (101, ⟨.agg [(0, 1), (1, 1), (2, 1)], 3, 32, [.str [], .int .i64 0, .int .i64 0]⟩),
  (109, ⟨.agg [(0, 1), (1, 1)], 2, 24, [.str [], .int .i64 0]⟩)]
theorem tbv62ok : tbB Tryz.prog tbv62 = true := by kernel_rfl
theorem method_Method_Frame_ok (m : Method) : Fn Tryz.prog gb 23 [.agg (Method.pc m)] (.tup [.agg (Frame.pc ((method_Method_Frame m).1)), .int .i64 ((method_Method_Frame m).2)]) := by
  refine fn_cw tbv62ok Tryz.func23 rfl Tryz.ntmps23 rfl cb23 rfl rfl fun w N H hG => ?_
  have m_channel_r : 0 ≤ m.channel ∧ m.channel ≤ 255 := w.1.1
  have m_kind_r : 0 ≤ m.kind ∧ m.kind ≤ 255 := w.1.2.1
  have m_name_l : m.name.length ≤ 9223372036854775807 := w.1.2.2.1
  have m_other_l : m.other.length ≤ 9223372036854775807 := w.1.2.2.2.1
  have m_key_l : m.key.length ≤ 9223372036854775807 := w.1.2.2.2.2.1
  have m_head_l : m.head.length ≤ 140737488355328 := w.1.2.2.2.2.2.1.1
  have m_body_l : m.body.length ≤ 9223372036854775807 := w.1.2.2.2.2.2.2.1
  have m_n_r : 0 ≤ m.n ∧ m.n ≤ 18446744073709551615 := w.1.2.2.2.2.2.2.2.1
  have m_m_r : 0 ≤ m.m ∧ m.m ≤ 18446744073709551615 := w.1.2.2.2.2.2.2.2.2.1
  have e0 := method_Method_Frame.eq_1 m
  refine go tbv62ok 2 rfl rfl trivial ?_
  refine ef (boxA 0 rfl rfl rfl fun b1 => ?_)
  refine ef (alloc tbv62ok 1 rfl rfl rfl rfl fun b2 => ?_)
  refine go tbv62ok 7 rfl rfl trivial ?_
  refine callv (method_Method_Check m) (fun r : Int => .int .i64 r) (method_Method_Check_ok _) rfl rfl fun r hr3 w4 => ?_
  have e5 := e0.trans (lt_eq hr3)
  have hA5 := check_kind m
  (try rw [← hr3] at hA5)
  refine go tbv62ok 9 rfl rfl trivial ?_
  refine cnd rfl (fun h7 => ?_) (fun h7 => ?_)
  · have h8 := not_t h7
    have p9 := df h8
    have e10 := e5.trans (condT h7)
    refine go tbv62ok 4 rfl rfl trivial ?_
    refine ef (storeA tbv62ok rfl rfl rfl rfl rfl rfl rfl rfl rfl rfl ?_)
    refine go tbv62ok 5 rfl rfl trivial ?_
    exact rt2 rfl rfl (ple_of (fun r : Frame × Int => .tup [.agg (Frame.pc r.1), .int .i64 r.2]) e10 (ple rfl))
  · have h11 := not_f h7
    have p12 := dt h11
    have e13 := e5.trans (condF h7)
    refine go tbv62ok 4 rfl rfl trivial ?_
    refine ef (alloc tbv62ok 2 rfl rfl rfl rfl fun b14 => ?_)
    refine go tbv62ok 7 rfl rfl trivial ?_
    refine q1 (qgstr (m := (m.kind).toNat) tellsT (by decide) (fun _ h => gbTells h) rfl Tryz.underlying94 sz9 (by omega) (by omega) rfl) rfl fun w15 => ?_
    refine go tbv62ok 1 rfl rfl trivial ?_
    refine ef (erange tbv62ok 3 rfl rfl rfl rfl fun b16 => ?_)
    refine go tbv62ok 3 rfl rfl trivial ?_
    refine loop (ι := Nat × Out) [1, 2, 3, 5, 21] [0, 1] (fun ⟨k, x⟩ => []) (fun ⟨k, x⟩ => [(3, .itr b16 (tellsT.getD (m.kind).toNat []) k), (2, .box b14 109 [.str x.s, .int .i64 x.err])]) (fun ⟨k, x⟩ => k ≤ (tellsT.getD (m.kind).toNat []).length ∧ method_Method_Frame m = method_Method_Frame_l0 m ((tellsT.getD (m.kind).toNat []).drop k)  x ∧ x.s.length ≤ 1000 * k) (fun ⟨k, x⟩ => (tellsT.getD (m.kind).toNat []).length - k) ⟨0, (⟨[], 0⟩ : Out)⟩ trivial ⟨rfl, rfl, trivial⟩ ?_ ?_
    · exact ⟨Nat.zero_le _, e13, (by simp)⟩
    · rintro ⟨k, x⟩ ⟨hp17_1, hp17_2, hp17_3⟩
      have hE : methodE m = 0 := by rw [← check_eq]; omega
      have htl : (tellsT.getD (m.kind).toNat []).length ≤ 5 := tells_len m.kind
      refine go tbv62ok 2 rfl rfl trivial ?_
      have u8_hn18 := u8r ((tellsT.getD (m.kind).toNat []).getD k 0)
      refine hnext rfl rfl rfl rfl (by have : (tellsT.getD (m.kind).toNat []).length ≤ 5 := tells_len m.kind; omega) (fun hn18 => (tells_at _ _ hn18)) rfl (fun hn18 => ?_) (fun hn18 => ?_)
      · have e19 := lstep (f := fun zz => method_Method_Frame_l0 m zz  x) hp17_2 (drop_getD hn18) (method_Method_Frame_l0.eq_2 _ _ _ _)
        have hone : oneE m ((((tellsT.getD (m.kind).toNat [])).getD k 0).toNat : Int) = 0 := methodE_at hE hn18
        obtain ⟨hol1, hol2, hol3, hol4⟩ := oneE_len hone
        refine go tbv62ok 26 rfl rfl trivial ?_
        refine cnd rfl (fun h20 => ?_) (fun h20 => ?_)
        · have p21 := dt h20
          have e22 := e19.trans (condT h20)
          refine go tbv62ok 4 rfl rfl trivial ?_
          refine call (out_Text _ _ (by first | omega | (have := hrl (by assumption); omega) | (simp [outNum, outRaw, numB_len, numK] <;> omega) | (have := hrl (by assumption); simp [outNum, outRaw, numB_len, numK] <;> omega))) rfl rfl fun w23 => ?_
          have := outText_len x m.name
          refine ef (storeA tbv62ok rfl rfl rfl rfl rfl rfl rfl rfl rfl rfl ?_)
          refine go tbv62ok 3 rfl rfl trivial ?_
          refine next ⟨(k + 1), (outText x m.name)⟩ rfl rfl trivial ⟨rfl, rfl, trivial⟩ ?_ ?_
          · (try simp only []); omega
          · exact ⟨by (try simp only []); omega, e22, (by (try simp only []); omega)⟩
        · have p24 := df h20
          have e25 := e19.trans (condF h20)
          refine go tbv62ok 7 rfl rfl trivial ?_
          refine cnd rfl (fun h26 => ?_) (fun h26 => ?_)
          · have p27 := dt h26
            have e28 := e25.trans (condT h26)
            refine go tbv62ok 2 rfl rfl trivial ?_
            refine cndT rfl h26 ?_
            refine go tbv62ok 4 rfl rfl trivial ?_
            refine call (out_Text _ _ (by first | omega | (have := hrl (by assumption); omega) | (simp [outNum, outRaw, numB_len, numK] <;> omega) | (have := hrl (by assumption); simp [outNum, outRaw, numB_len, numK] <;> omega))) rfl rfl fun w29 => ?_
            have := outText_len x m.other
            refine ef (storeA tbv62ok rfl rfl rfl rfl rfl rfl rfl rfl rfl rfl ?_)
            refine go tbv62ok 3 rfl rfl trivial ?_
            refine next ⟨(k + 1), (outText x m.other)⟩ rfl rfl trivial ⟨rfl, rfl, trivial⟩ ?_ ?_
            · (try simp only []); omega
            · exact ⟨by (try simp only []); omega, e28, (by (try simp only []); omega)⟩
          · have p30 := df h26
            have e31 := e25.trans (condF h26)
            refine go tbv62ok 5 rfl rfl trivial ?_
            refine cnd rfl (fun h32 => ?_) (fun h32 => ?_)
            · have p33 := dt h32
              have e34 := e31.trans (condT h32)
              refine go tbv62ok 4 rfl rfl trivial ?_
              refine call (out_Text _ _ (by first | omega | (have := hrl (by assumption); omega) | (simp [outNum, outRaw, numB_len, numK] <;> omega) | (have := hrl (by assumption); simp [outNum, outRaw, numB_len, numK] <;> omega))) rfl rfl fun w35 => ?_
              have := outText_len x m.other
              refine ef (storeA tbv62ok rfl rfl rfl rfl rfl rfl rfl rfl rfl rfl ?_)
              refine go tbv62ok 3 rfl rfl trivial ?_
              refine next ⟨(k + 1), (outText x m.other)⟩ rfl rfl trivial ⟨rfl, rfl, trivial⟩ ?_ ?_
              · (try simp only []); omega
              · exact ⟨by (try simp only []); omega, e34, (by (try simp only []); omega)⟩
            · have p36 := df h32
              have e37 := e31.trans (condF h32)
              refine go tbv62ok 7 rfl rfl trivial ?_
              refine cnd rfl (fun h38 => ?_) (fun h38 => ?_)
              · have p39 := dt h38
                have e40 := e37.trans (condT h38)
                refine go tbv62ok 2 rfl rfl trivial ?_
                refine cndT rfl h38 ?_
                refine go tbv62ok 4 rfl rfl trivial ?_
                refine call (out_Text _ _ (by first | omega | (have := hrl (by assumption); omega) | (simp [outNum, outRaw, numB_len, numK] <;> omega) | (have := hrl (by assumption); simp [outNum, outRaw, numB_len, numK] <;> omega))) rfl rfl fun w41 => ?_
                have := outText_len x m.key
                refine ef (storeA tbv62ok rfl rfl rfl rfl rfl rfl rfl rfl rfl rfl ?_)
                refine go tbv62ok 3 rfl rfl trivial ?_
                refine next ⟨(k + 1), (outText x m.key)⟩ rfl rfl trivial ⟨rfl, rfl, trivial⟩ ?_ ?_
                · (try simp only []); omega
                · exact ⟨by (try simp only []); omega, e40, (by (try simp only []); omega)⟩
              · have p42 := df h38
                have e43 := e37.trans (condF h38)
                refine go tbv62ok 5 rfl rfl trivial ?_
                refine cnd rfl (fun h44 => ?_) (fun h44 => ?_)
                · have p45 := dt h44
                  have e46 := e43.trans (condT h44)
                  refine go tbv62ok 4 rfl rfl trivial ?_
                  refine call (out_Text _ _ (by first | omega | (have := hrl (by assumption); omega) | (simp [outNum, outRaw, numB_len, numK] <;> omega) | (have := hrl (by assumption); simp [outNum, outRaw, numB_len, numK] <;> omega))) rfl rfl fun w47 => ?_
                  have := outText_len x m.key
                  refine ef (storeA tbv62ok rfl rfl rfl rfl rfl rfl rfl rfl rfl rfl ?_)
                  refine go tbv62ok 3 rfl rfl trivial ?_
                  refine next ⟨(k + 1), (outText x m.key)⟩ rfl rfl trivial ⟨rfl, rfl, trivial⟩ ?_ ?_
                  · (try simp only []); omega
                  · exact ⟨by (try simp only []); omega, e46, (by (try simp only []); omega)⟩
                · have p48 := df h44
                  have e49 := e43.trans (condF h44)
                  refine go tbv62ok 6 rfl rfl trivial ?_
                  refine cnd rfl (fun h50 => ?_) (fun h50 => ?_)
                  · have p51 := dt h50
                    have e52 := e49.trans (condT h50)
                    refine go tbv62ok 4 rfl rfl trivial ?_
                    refine call (head_Bytes _) rfl rfl fun w53 => ?_
                    have := headBytes_len m.head
                    refine go tbv62ok 10 rfl rfl trivial ?_
                    refine call (out_Raw _ _ (by first | omega | (have := hrl (by assumption); omega) | (simp [outNum, outRaw, numB_len, numK] <;> omega) | (have := hrl (by assumption); simp [outNum, outRaw, numB_len, numK] <;> omega))) rfl rfl fun w54 => ?_
                    have := outRaw_len x (headBytes m.head)
                    refine ef (storeA tbv62ok rfl rfl rfl rfl rfl rfl rfl rfl rfl rfl ?_)
                    refine go tbv62ok 3 rfl rfl trivial ?_
                    refine next ⟨(k + 1), (outRaw x (headBytes m.head))⟩ rfl rfl trivial ⟨rfl, rfl, trivial⟩ ?_ ?_
                    · (try simp only []); omega
                    · exact ⟨by (try simp only []); omega, e52, (by (try simp only []); omega)⟩
                  · have p55 := df h50
                    have e56 := e49.trans (condF h50)
                    refine go tbv62ok 6 rfl rfl trivial ?_
                    refine cnd rfl (fun h57 => ?_) (fun h57 => ?_)
                    · have p58 := dt h57
                      have e59 := e56.trans (condT h57)
                      refine go tbv62ok 4 rfl rfl trivial ?_
                      refine call (out_Text _ _ (by first | omega | (have := hrl (by assumption); omega) | (simp [outNum, outRaw, numB_len, numK] <;> omega) | (have := hrl (by assumption); simp [outNum, outRaw, numB_len, numK] <;> omega))) rfl rfl fun w60 => ?_
                      have := outText_len x m.body
                      refine ef (storeA tbv62ok rfl rfl rfl rfl rfl rfl rfl rfl rfl rfl ?_)
                      refine go tbv62ok 3 rfl rfl trivial ?_
                      refine next ⟨(k + 1), (outText x m.body)⟩ rfl rfl trivial ⟨rfl, rfl, trivial⟩ ?_ ?_
                      · (try simp only []); omega
                      · exact ⟨by (try simp only []); omega, e59, (by (try simp only []); omega)⟩
                    · have p61 := df h57
                      have e62 := e56.trans (condF h57)
                      refine go tbv62ok 6 rfl rfl trivial ?_
                      refine cnd rfl (fun h63 => ?_) (fun h63 => ?_)
                      · have p64 := dt h63
                        have e65 := e62.trans (condT h63)
                        refine go tbv62ok 4 rfl rfl trivial ?_
                        refine call (out_Num _ _ _ (by first | omega | (have := hrl (by assumption); omega) | (simp [outNum, outRaw, numB_len, numK] <;> omega) | (have := hrl (by assumption); simp [outNum, outRaw, numB_len, numK] <;> omega))) rfl rfl fun w66 => ?_
                        have := outNum_len x m.n 8
                        refine ef (storeA tbv62ok rfl rfl rfl rfl rfl rfl rfl rfl rfl rfl ?_)
                        refine go tbv62ok 3 rfl rfl trivial ?_
                        refine next ⟨(k + 1), (outNum x m.n 8)⟩ rfl rfl trivial ⟨rfl, rfl, trivial⟩ ?_ ?_
                        · (try simp only []); omega
                        · exact ⟨by (try simp only []); omega, e65, (by (try simp only []); omega)⟩
                      · have p67 := df h63
                        have e68 := e62.trans (condF h63)
                        refine go tbv62ok 6 rfl rfl trivial ?_
                        refine cnd rfl (fun h69 => ?_) (fun h69 => ?_)
                        · have p70 := dt h69
                          have e71 := e68.trans (condT h69)
                          refine go tbv62ok 4 rfl rfl trivial ?_
                          refine call (out_Num _ _ _ (by first | omega | (have := hrl (by assumption); omega) | (simp [outNum, outRaw, numB_len, numK] <;> omega) | (have := hrl (by assumption); simp [outNum, outRaw, numB_len, numK] <;> omega))) rfl rfl fun w72 => ?_
                          have := outNum_len x m.m 8
                          refine ef (storeA tbv62ok rfl rfl rfl rfl rfl rfl rfl rfl rfl rfl ?_)
                          refine go tbv62ok 3 rfl rfl trivial ?_
                          refine next ⟨(k + 1), (outNum x m.m 8)⟩ rfl rfl trivial ⟨rfl, rfl, trivial⟩ ?_ ?_
                          · (try simp only []); omega
                          · exact ⟨by (try simp only []); omega, e71, (by (try simp only []); omega)⟩
                        · have p73 := df h69
                          have e74 := e68.trans (condF h69)
                          refine go tbv62ok 6 rfl rfl trivial ?_
                          refine cnd rfl (fun h75 => ?_) (fun h75 => ?_)
                          · have p76 := dt h75
                            have e77 := e74.trans (condT h75)
                            refine go tbv62ok 12 rfl rfl trivial ?_
                            refine cnd rfl (fun h78 => ?_) (fun h78 => ?_)
                            · have e79 := e77.trans (condT h78)
                              refine go tbv62ok 7 rfl rfl trivial ?_
                              refine call (out_Num _ _ _ (by first | omega | (have := hrl (by assumption); omega) | (simp [outNum, outRaw, numB_len, numK] <;> omega) | (have := hrl (by assumption); simp [outNum, outRaw, numB_len, numK] <;> omega))) rfl rfl fun w80 => ?_
                              have := outNum_len x 1 1
                              refine ef (storeA tbv62ok rfl rfl rfl rfl rfl rfl rfl rfl rfl rfl ?_)
                              refine go tbv62ok 3 rfl rfl trivial ?_
                              refine next ⟨(k + 1), (outNum x 1 1)⟩ rfl rfl trivial ⟨rfl, rfl, trivial⟩ ?_ ?_
                              · (try simp only []); omega
                              · exact ⟨by (try simp only []); omega, e79, (by (try simp only []); omega)⟩
                            · have e81 := e77.trans (condF h78)
                              refine go tbv62ok 5 rfl rfl trivial ?_
                              refine call (out_Num _ _ _ (by first | omega | (have := hrl (by assumption); omega) | (simp [outNum, outRaw, numB_len, numK] <;> omega) | (have := hrl (by assumption); simp [outNum, outRaw, numB_len, numK] <;> omega))) rfl rfl fun w82 => ?_
                              have := outNum_len x 0 1
                              refine ef (storeA tbv62ok rfl rfl rfl rfl rfl rfl rfl rfl rfl rfl ?_)
                              refine go tbv62ok 3 rfl rfl trivial ?_
                              refine next ⟨(k + 1), (outNum x 0 1)⟩ rfl rfl trivial ⟨rfl, rfl, trivial⟩ ?_ ?_
                              · (try simp only []); omega
                              · exact ⟨by (try simp only []); omega, e81, (by (try simp only []); omega)⟩
                          · have p83 := df h75
                            have e84 := e74.trans (condF h75)
                            refine go tbv62ok 3 rfl rfl trivial ?_
                            refine next ⟨(k + 1), x⟩ rfl rfl trivial ⟨rfl, rfl, trivial⟩ ?_ ?_
                            · (try simp only []); omega
                            · exact ⟨by (try simp only []); omega, e84, (by (try simp only []); omega)⟩
      · have e85 := lstep (f := fun zz => method_Method_Frame_l0 m zz  x) hp17_2 (dropN hn18) (method_Method_Frame_l0.eq_1 _ _)
        refine go tbv62ok 11 rfl rfl trivial ?_
        refine any [1, 4, 5, 6, 7, 8, 9] 9 mixd rfl ?_
        refine gov tbv62ok [0, 1, 2, 3, 4] 4 rfl (by kernel_rfl) rfl rfl trivial ?_
        refine vcall 5 rfl (by kernel_rfl) (out_String _) rfl rfl fun w86 => ?_
        refine gov tbv62ok [6] 2 rfl (by kernel_rfl) rfl rfl trivial ?_
        refine vt 7 rfl (by kernel_rfl) (by kernel_rfl) (storeA tbv62ok rfl rfl rfl rfl rfl rfl rfl rfl rfl rfl ?_)
        refine gov tbv62ok [8] 0 rfl (by kernel_rfl) rfl rfl trivial ?_
        refine vdone (by kernel_rfl) ?_
        refine go tbv62ok 2 rfl rfl trivial ?_
        exact rt2 rfl rfl (ple_of (fun r : Frame × Int => .tup [.agg (Frame.pc r.1), .int .i64 r.2]) e85 (ple rfl))
theorem r01_In_Raw_ok (i : RIn) (n : Int) (hi : RW i) : Fm Tryz.prog gb 90 [.int .i64 n] 101 (RIn.pc i) (.str ((r01_In_Raw i n).1)) (RIn.pc ((r01_In_Raw i n).2)) := by
  refine fm_cw tbv62ok Tryz.func90 rfl Tryz.ntmps90 rfl cb90 rfl rfl rfl rfl fun w wp b N H hG => ?_
  have n_r : -9223372036854775808 ≤ n ∧ n ≤ 9223372036854775807 := w.1
  have i_s_l : i.s.length ≤ 9223372036854775807 := wp.1
  have i_pos_r : -9223372036854775808 ≤ i.pos ∧ i.pos ≤ 9223372036854775807 := wp.2.1
  have i_code_r : -9223372036854775808 ≤ i.code ∧ i.code ≤ 9223372036854775807 := wp.2.2.1
  obtain ⟨hi1, hi2⟩ := id hi
  have e0 := r01_In_Raw.eq_1 i n
  refine go tbv62ok 19 rfl rfl ⟨(fun hc => hc), rfl, rfl, trivial⟩ ?_
  refine cnd rfl (fun h1 => ?_) (fun h1 => ?_)
  · have e2 := e0.trans (condT h1)
    refine go tbv62ok 7 rfl rfl trivial ?_
    exact rm1 rfl rfl (ple_of (fun r : Bs × RIn => .str r.1) e2 (ple rfl)) rfl rfl rfl (ples_of (fun r : Bs × RIn => RIn.pc r.2) e2 (ples rfl))
  · have h3 := orl h1
    have h4 := not_f h3
    have p5 := dt h4
    have h6 := orr h1
    have p7 := df h6
    have e8 := e0.trans (condF h1)
    refine go tbv62ok 4 rfl rfl trivial ?_
    refine any [1, 2, 3, 4, 5, 6] 12 mixd rfl ?_
    refine gov tbv62ok [0, 1, 2, 3, 4, 5, 6, 7, 8, 9, 10, 11] 0 rfl (by kernel_rfl) rfl rfl ⟨(by omega), trivial⟩ ?_
    refine vdone (by kernel_rfl) ?_
    refine go tbv62ok 1 rfl rfl trivial ?_
    refine cnd rfl (fun h9 => ?_) (fun h9 => ?_)
    · have p10 := dt h9
      have e11 := e8.trans (condT h9)
      refine go tbv62ok 3 rfl rfl trivial ?_
      refine ef (ecallm (r01_In_Fail_ok _ _) rfl rfl rfl rfl rfl ?_)
      generalize hr13 : r01_In_Fail i 3 = r
      intro w12 w12p
      have e14 := e11.trans (lt_eq hr13.symm)
      have hA14 := rw_Fail i 3 (by first | assumption | exact rw_new _)
      (try rw [← hr13.symm] at hA14)
      refine go tbv62ok 9 rfl rfl trivial ?_
      exact rm1 rfl rfl (ple_of (fun r : Bs × RIn => .str r.1) e14 (ple rfl)) rfl rfl rfl (ples_of (fun r : Bs × RIn => RIn.pc r.2) e14 (ples rfl))
    · have p16 := df h9
      have e17 := e8.trans (condF h9)
      refine go tbv62ok 13 rfl rfl ⟨(by omega), trivial⟩ ?_
      refine ef (store1 tbv62ok rfl rfl rfl rfl rfl rfl rfl rfl rfl ?_)
      refine go tbv62ok 3 rfl rfl trivial ?_
      refine any [1, 2, 3, 4, 5, 6] 16 mixd rfl ?_
      refine gov tbv62ok [0, 1, 2, 3, 4, 5, 6, 7, 8, 9, 10, 11, 12, 13] 2 rfl (by kernel_rfl) rfl rfl ⟨(by omega), trivial⟩ ?_
      refine vq 14 (ssl tbv62ok (((i.pos + n) - n)).toNat ((i.pos + n)).toNat rfl rfl rfl rfl rfl (by omega) (by omega) (by omega) (by omega)) rfl (by kernel_rfl) rfl fun w18 => ?_
      refine gov tbv62ok [15] 0 rfl (by kernel_rfl) rfl rfl trivial ?_
      refine vdone (by kernel_rfl) ?_
      refine go tbv62ok 2 rfl rfl trivial ?_
      exact rm1 rfl rfl (ple_of (fun r : Bs × RIn => .str r.1) e17 (ple rfl)) rfl rfl rfl (ples_of (fun r : Bs × RIn => RIn.pc r.2) e17 (ples rfl))
end Go.SW.V
set_option linter.unusedVariables false
set_option maxRecDepth 100000
set_option maxHeartbeats 4000000
namespace Go.SW.V
open Go.SW Go.Proofs
theorem cb19 : Callable Tryz.prog 19 := callable_of Tryz.func19 (by kernel_rfl) (by kernel_rfl)
theorem cb52 : Callable Tryz.prog 52 := callable_of Tryz.func52 (by kernel_rfl) (by kernel_rfl)
theorem cb55 : Callable Tryz.prog 55 := callable_of Tryz.func55 (by kernel_rfl) (by kernel_rfl)
theorem cb58 : Callable Tryz.prog 58 := callable_of Tryz.func58 (by kernel_rfl) (by kernel_rfl)
def tbv63 : Tb := [(3, ⟨.int .i64, 1, 8, [.int .i64 0]⟩),
  (4, ⟨.bool, 1, 1, [.bool false]⟩),
  (5, ⟨.int .u8, 1, 1, [.int .u8 0]⟩),
  (9, ⟨.str, 1, 16, [.str []]⟩),
  (25, ⟨.int .u64, 1, 8, [.int .u64 0]⟩),
  (26, ⟨.slc 118, 1, 24, [.sl Pair.pc []]⟩),
  (50, ⟨.agg [(0, 1), (1, 1), (2, 1)], 3, 24, [.int .u8 0, .int .u8 0, .str []]⟩),
  (54, ⟨.agg [(0, 1), (1, 1), (2, 1), (3, 1), (4, 1), (5, 1), (6, 1), (7, 1), (8, 1), (9, 1)], 10, 120, [.int .u8 0, .int .u8 0, .str [], .str [], .str [], .sl Pair.pc [], .str [], .int .u64 0, .int .u64 0, .bool false]⟩),
  (101, ⟨.agg [(0, 1), (1, 1), (2, 1)], 3, 32, [.str [], .int .i64 0, .int .i64 0]⟩)]
theorem tbv63ok : tbB Tryz.prog tbv63 = true := by kernel_rfl
theorem r01_In_Num_ok (i : RIn) (bytes : Int) (hi : RW i) : Fm Tryz.prog gb 55 [.int .i64 bytes] 101 (RIn.pc i) (.int .u64 ((r01_In_Num i bytes).1)) (RIn.pc ((r01_In_Num i bytes).2)) := by
  refine fm_cw tbv63ok Tryz.func55 rfl Tryz.ntmps55 rfl cb55 rfl rfl rfl rfl fun w wp b N H hG => ?_
  have bytes_r : -9223372036854775808 ≤ bytes ∧ bytes ≤ 9223372036854775807 := w.1
  have i_s_l : i.s.length ≤ 9223372036854775807 := wp.1
  have i_pos_r : -9223372036854775808 ≤ i.pos ∧ i.pos ≤ 9223372036854775807 := wp.2.1
  have i_code_r : -9223372036854775808 ≤ i.code ∧ i.code ≤ 9223372036854775807 := wp.2.2.1
  have e0 := r01_In_Num.eq_1 i bytes
  refine go tbv63ok 6 rfl rfl trivial ?_
  obtain ⟨o, e_o, q_o⟩ := lt1_split e0
  refine joinc (ι := Int) [0, 4] [0] (fun bytes1 => [(1, .int .i64 bytes1)]) (fun bytes1 => []) (fun bytes1 => o = bytes1 ∧ bytes1 ≤ 8) ?_ ?_
  · refine go tbv63ok 6 rfl rfl trivial ?_
    refine cnd rfl (fun h1 => ?_) (fun h1 => ?_)
    · have p2 := dt h1
      have e3 := e_o.trans (condT h1)
      refine go tbv63ok 3 rfl rfl trivial ?_
      refine next 8 rfl rfl ⟨rfl, trivial⟩ trivial (by decide) ?_
      exact ⟨e3, (by (try simp only []); omega)⟩
    · have p4 := df h1
      have e5 := e_o.trans (condF h1)
      refine go tbv63ok 1 rfl rfl trivial ?_
      refine next bytes rfl rfl ⟨rfl, trivial⟩ trivial (by decide) ?_
      exact ⟨e5, (by (try simp only []); omega)⟩
  · rintro bytes1 ⟨hp6, hp6_3⟩
    have e7 := lt1_fin q_o hp6
    refine go tbv63ok 5 rfl rfl trivial ?_
    refine ef (ecallm (r01_In_Raw_ok _ _ (by first | assumption | exact rw_new _ | exact ⟨by (try simp only []); omega, by (try simp only []); omega⟩)) rfl rfl rfl rfl rfl ?_)
    generalize hr9 : r01_In_Raw i bytes1 = r
    intro w8 w8p
    have e10 := e7.trans (lt_eq hr9.symm)
    have hA10 := rw_Raw i bytes1 (by first | assumption | exact rw_new _)
    (try rw [← hr9.symm] at hA10)
    have hA11 := raw_le i bytes1
    (try rw [← hr9.symm] at hA11)
    refine go tbv63ok 15 rfl rfl trivial ?_
    refine loop (ι := Nat × Int × Nat) [4, 5] [0] (fun ⟨f, n, k⟩ => [(6, .int .u64 n), (7, .int .i64 (k : Int))]) (fun ⟨f, n, k⟩ => []) (fun ⟨f, n, k⟩ => r.1.length - k < f ∧ r01_In_Num i bytes = r01_In_Num_l0 r f n k) (fun ⟨f, n, k⟩ => f) ⟨(r.1.length - 0 + 1), 0, 0⟩ ⟨rfl, rfl, trivial⟩ trivial ?_ ?_
    · exact ⟨Nat.lt_succ_self _, e10⟩
    · rintro ⟨f, n, k⟩ ⟨hp13_1, hp13_2⟩
      refine sw_wf (t := 6) rfl fun w_n => ?_
      have w_n' := w_n
      simp only [PV.wf] at w_n'
      obtain ⟨f1, rfl⟩ : ∃ q, f = q + 1 := ⟨f - 1, by omega⟩
      have e_f1 := hp13_2.trans (r01_In_Num_l0.eq_2 _ _ _ _)
      refine go tbv63ok 9 rfl rfl trivial ?_
      refine cnd rfl (fun h14 => ?_) (fun h14 => ?_)
      · have p15 := dt h14
        have e16 := e_f1.trans (condT h14)
        have := wr_u64 (n * 256)
        have := u8r (r.1.getD k 0)
        refine go tbv63ok 9 rfl rfl trivial ?_
        refine q1 (sidx tbv63ok k rfl rfl rfl rfl rfl (by omega)) rfl fun w17 => ?_
        have := wr_u64 ((IntKind.wrap .u64 (n * 256)) + ((r.1.getD k 0).toNat : Int))
        refine go tbv63ok 11 rfl rfl ⟨(by omega), trivial⟩ ?_
        refine next ⟨f1, (IntKind.wrap .u64 ((IntKind.wrap .u64 (n * 256)) + ((r.1.getD k 0).toNat : Int))), (k + 1)⟩ rfl rfl ⟨rfl, rfl, trivial⟩ trivial ?_ ?_
        · (try simp only []); omega
        · exact ⟨by (try simp only []); omega, e16⟩
      · have p18 := df h14
        have e19 := e_f1.trans (condF h14)
        refine go tbv63ok 12 rfl rfl trivial ?_
        exact rm1 rfl rfl (ple_of (fun r : Int × RIn => .int .u64 r.1) e19 (ple rfl)) rfl rfl rfl (ples_of (fun r : Int × RIn => RIn.pc r.2) e19 (ples rfl))
theorem r01_In_End_ok (i : RIn) (hi : RW i) : Fm Tryz.prog gb 58 [] 101 (RIn.pc i) (.int .i64 ((r01_In_End i).1)) (RIn.pc ((r01_In_End i).2)) := by
  refine fm_cw tbv63ok Tryz.func58 rfl Tryz.ntmps58 rfl cb58 rfl rfl rfl rfl fun w wp b N H hG => ?_
  have i_s_l : i.s.length ≤ 9223372036854775807 := wp.1
  have i_pos_r : -9223372036854775808 ≤ i.pos ∧ i.pos ≤ 9223372036854775807 := wp.2.1
  have i_code_r : -9223372036854775808 ≤ i.code ∧ i.code ≤ 9223372036854775807 := wp.2.2.1
  have e0 := r01_In_End.eq_1 i
  refine go tbv63ok 7 rfl rfl trivial ?_
  refine any [1, 2, 3, 4, 5, 6] 17 mixd rfl ?_
  refine gov tbv63ok [0, 1, 2, 3, 4, 5, 6, 7, 8, 9, 10, 11, 12, 13, 14, 15, 16] 0 rfl (by kernel_rfl) rfl rfl ⟨(fun hc => hc), (fun hc => hc), (fun hc => hc), (fun hc => hc), (fun hc => hc), (fun hc => hc), (fun hc => hc), (fun hc => hc), (fun hc => hc), rfl, rfl, trivial⟩ ?_
  refine vdone (by kernel_rfl) ?_
  refine go tbv63ok 1 rfl rfl trivial ?_
  refine cnd rfl (fun h1 => ?_) (fun h1 => ?_)
  · have h2 := bl h1
    have p3 := dt h2
    have h4 := br h1
    have p5 := dt h4
    have e6 := e0.trans (condT h1)
    refine go tbv63ok 7 rfl rfl trivial ?_
    exact rm1 rfl rfl (ple_of (fun r : Int × RIn => .int .i64 r.1) e6 (ple rfl)) rfl rfl rfl (ples_of (fun r : Int × RIn => RIn.pc r.2) e6 (ples rfl))
  · have e7 := e0.trans (condF h1)
    refine go tbv63ok 12 rfl rfl trivial ?_
    exact rm1 rfl rfl (ple_of (fun r : Int × RIn => .int .i64 r.1) e7 (ple rfl)) rfl rfl rfl (ples_of (fun r : Int × RIn => RIn.pc r.2) e7 (ples rfl))
theorem method_Of_ok (f : Frame) : Fn Tryz.prog gb 19 [.agg (Frame.pc f)] (.tup [.agg (Method.pc ((method_Of f).1)), .int .i64 ((method_Of f).2)]) := by
  refine fn_cw tbv63ok Tryz.func19 rfl Tryz.ntmps19 rfl cb19 rfl rfl fun w N H hG => ?_
  have f_channel_r : 0 ≤ f.channel ∧ f.channel ≤ 255 := w.1.1
  have f_kind_r : 0 ≤ f.kind ∧ f.kind ≤ 255 := w.1.2.1
  have f_body_l : f.body.length ≤ 9223372036854775807 := w.1.2.2.1
  have e0 := method_Of.eq_1 f
  refine go tbv63ok 2 rfl rfl trivial ?_
  refine ef (boxA 0 rfl rfl rfl fun b1 => ?_)
  refine ef (alloc tbv63ok 1 rfl rfl rfl rfl fun b2 => ?_)
  refine go tbv63ok 11 rfl rfl trivial ?_
  refine cnd rfl (fun h3 => ?_) (fun h3 => ?_)
  · have p4 := dt h3
    have e5 := e0.trans (condT h3)
    refine go tbv63ok 3 rfl rfl trivial ?_
    refine ef (storeA tbv63ok rfl rfl rfl rfl rfl rfl rfl rfl rfl rfl ?_)
    refine go tbv63ok 5 rfl rfl trivial ?_
    exact rt2 rfl rfl (ple_of (fun r : Method × Int => .tup [.agg (Method.pc r.1), .int .i64 r.2]) e5 (ple rfl))
  · have p6 := df h3
    have e7 := e0.trans (condF h3)
    refine go tbv63ok 9 rfl rfl trivial ?_
    refine ef (alloc tbv63ok 2 rfl rfl rfl rfl fun b8 => ?_)
    refine ef (storeA tbv63ok rfl rfl rfl rfl rfl rfl rfl rfl rfl rfl ?_)
    refine go tbv63ok 6 rfl rfl trivial ?_
    refine ef (ecallb 3 (octet_New _) rfl rfl fun w9 b10 => ?_)
    refine go tbv63ok 8 rfl rfl trivial ?_
    refine q1 (qgstr (m := (f.kind).toNat) tellsT (by decide) (fun _ h => gbTells h) rfl Tryz.underlying94 sz9 (by omega) (by omega) rfl) rfl fun w11 => ?_
    refine go tbv63ok 1 rfl rfl trivial ?_
    refine ef (erange tbv63ok 4 rfl rfl rfl rfl fun b12 => ?_)
    refine go tbv63ok 3 rfl rfl trivial ?_
    refine loop (ι := Nat × Method × In) [2, 3, 4, 5, 26] [0, 1] (fun ⟨k, x, x1⟩ => []) (fun ⟨k, x, x1⟩ => [(4, .itr b12 (tellsT.getD (f.kind).toNat []) k), (2, .box b8 54 [.int .u8 x.channel, .int .u8 x.kind, .str x.name, .str x.other, .str x.key, .sl Pair.pc x.head, .str x.body, .int .u64 x.n, .int .u64 x.m, .bool x.yes]), (3, .box b10 126 [.str x1.s, .int .i64 x1.err])]) (fun ⟨k, x, x1⟩ => k ≤ (tellsT.getD (f.kind).toNat []).length ∧ method_Of f = method_Of_l0 ((tellsT.getD (f.kind).toNat []).drop k)  x x1) (fun ⟨k, x, x1⟩ => (tellsT.getD (f.kind).toNat []).length - k) ⟨0, (⟨f.channel, f.kind, [], [], [], [], [], 0, 0, false⟩ : Method), (⟨f.body, 0⟩)⟩ trivial ⟨rfl, rfl, rfl, trivial⟩ ?_ ?_
    · exact ⟨Nat.zero_le _, e7⟩
    · rintro ⟨k, x, x1⟩ ⟨hp13_1, hp13_2⟩
      refine go tbv63ok 2 rfl rfl trivial ?_
      have u8_hn14 := u8r ((tellsT.getD (f.kind).toNat []).getD k 0)
      refine hnext rfl rfl rfl rfl (by have : (tellsT.getD (f.kind).toNat []).length ≤ 5 := tells_len f.kind; omega) (fun hn14 => (tells_at _ _ hn14)) rfl (fun hn14 => ?_) (fun hn14 => ?_)
      · have e15 := lstep (f := fun zz => method_Of_l0 zz  x x1) hp13_2 (drop_getD hn14) (method_Of_l0.eq_2 _ _ _ _)
        refine go tbv63ok 17 rfl rfl trivial ?_
        refine hinl [] tbv63ok Tryz.func52 rfl Tryz.ntmps52 cb52 rfl rfl rfl rfl fun Hc16 hHc16 => ?_
        refine go tbv63ok 12 rfl rfl trivial ?_
        refine cnd rfl (fun h17 => ?_) (fun h17 => ?_)
        · have p18 := dt h17
          have e19 := e15.trans (condT h17)
          refine go tbv63ok 3 rfl rfl trivial ?_
          refine ef (ecallm (in_Text _ _) rfl rfl rfl rfl rfl ?_)
          generalize hr21 : inText x1 16 = r
          intro w20 w20p
          have e22 := e19.trans (lt_eq hr21.symm)
          have := inText_len x1 16
          (try simp only [hr21] at *)
          refine go tbv63ok 2 rfl rfl trivial ?_
          refine ef (store1 tbv63ok rfl rfl rfl rfl rfl rfl rfl rfl rfl ?_)
          refine go tbv63ok 2 rfl rfl trivial ?_
          refine inln rfl rfl rfl trivial ?_
          refine go tbv63ok 2 rfl rfl trivial ?_
          refine next ⟨(k + 1), (⟨x.channel, x.kind, r.1, x.other, x.key, x.head, x.body, x.n, x.m, x.yes⟩ : Method), r.2⟩ rfl rfl trivial ⟨rfl, rfl, rfl, trivial⟩ ?_ ?_
          · (try simp only []); omega
          · exact ⟨by (try simp only []); omega, e22⟩
        · have p24 := df h17
          have e25 := e15.trans (condF h17)
          refine go tbv63ok 7 rfl rfl trivial ?_
          refine cnd rfl (fun h26 => ?_) (fun h26 => ?_)
          · have p27 := dt h26
            have e28 := e25.trans (condT h26)
            refine go tbv63ok 2 rfl rfl trivial ?_
            refine cndT rfl h26 ?_
            refine go tbv63ok 3 rfl rfl trivial ?_
            refine ef (ecallm (in_Text _ _) rfl rfl rfl rfl rfl ?_)
            generalize hr30 : inText x1 16 = r1
            intro w29 w29p
            have e31 := e28.trans (lt_eq hr30.symm)
            have := inText_len x1 16
            (try simp only [hr30] at *)
            refine go tbv63ok 2 rfl rfl trivial ?_
            refine ef (store1 tbv63ok rfl rfl rfl rfl rfl rfl rfl rfl rfl ?_)
            refine go tbv63ok 2 rfl rfl trivial ?_
            refine inln rfl rfl rfl trivial ?_
            refine go tbv63ok 2 rfl rfl trivial ?_
            refine next ⟨(k + 1), (⟨x.channel, x.kind, x.name, r1.1, x.key, x.head, x.body, x.n, x.m, x.yes⟩ : Method), r1.2⟩ rfl rfl trivial ⟨rfl, rfl, rfl, trivial⟩ ?_ ?_
            · (try simp only []); omega
            · exact ⟨by (try simp only []); omega, e31⟩
          · have p33 := df h26
            have e34 := e25.trans (condF h26)
            refine go tbv63ok 5 rfl rfl trivial ?_
            refine cnd rfl (fun h35 => ?_) (fun h35 => ?_)
            · have p36 := dt h35
              have e37 := e34.trans (condT h35)
              refine go tbv63ok 3 rfl rfl trivial ?_
              refine ef (ecallm (in_Text _ _) rfl rfl rfl rfl rfl ?_)
              generalize hr39 : inText x1 16 = r2
              intro w38 w38p
              have e40 := e37.trans (lt_eq hr39.symm)
              have := inText_len x1 16
              (try simp only [hr39] at *)
              refine go tbv63ok 2 rfl rfl trivial ?_
              refine ef (store1 tbv63ok rfl rfl rfl rfl rfl rfl rfl rfl rfl ?_)
              refine go tbv63ok 2 rfl rfl trivial ?_
              refine inln rfl rfl rfl trivial ?_
              refine go tbv63ok 2 rfl rfl trivial ?_
              refine next ⟨(k + 1), (⟨x.channel, x.kind, x.name, r2.1, x.key, x.head, x.body, x.n, x.m, x.yes⟩ : Method), r2.2⟩ rfl rfl trivial ⟨rfl, rfl, rfl, trivial⟩ ?_ ?_
              · (try simp only []); omega
              · exact ⟨by (try simp only []); omega, e40⟩
            · have p42 := df h35
              have e43 := e34.trans (condF h35)
              refine go tbv63ok 7 rfl rfl trivial ?_
              refine cnd rfl (fun h44 => ?_) (fun h44 => ?_)
              · have p45 := dt h44
                have e46 := e43.trans (condT h44)
                refine go tbv63ok 2 rfl rfl trivial ?_
                refine cndT rfl h44 ?_
                refine go tbv63ok 3 rfl rfl trivial ?_
                refine ef (ecallm (in_Text _ _) rfl rfl rfl rfl rfl ?_)
                generalize hr48 : inText x1 64 = r3
                intro w47 w47p
                have e49 := e46.trans (lt_eq hr48.symm)
                have := inText_len x1 64
                (try simp only [hr48] at *)
                refine go tbv63ok 2 rfl rfl trivial ?_
                refine ef (store1 tbv63ok rfl rfl rfl rfl rfl rfl rfl rfl rfl ?_)
                refine go tbv63ok 2 rfl rfl trivial ?_
                refine inln rfl rfl rfl trivial ?_
                refine go tbv63ok 2 rfl rfl trivial ?_
                refine next ⟨(k + 1), (⟨x.channel, x.kind, x.name, x.other, r3.1, x.head, x.body, x.n, x.m, x.yes⟩ : Method), r3.2⟩ rfl rfl trivial ⟨rfl, rfl, rfl, trivial⟩ ?_ ?_
                · (try simp only []); omega
                · exact ⟨by (try simp only []); omega, e49⟩
              · have p51 := df h44
                have e52 := e43.trans (condF h44)
                refine go tbv63ok 5 rfl rfl trivial ?_
                refine cnd rfl (fun h53 => ?_) (fun h53 => ?_)
                · have p54 := dt h53
                  have e55 := e52.trans (condT h53)
                  refine go tbv63ok 3 rfl rfl trivial ?_
                  refine ef (ecallm (in_Text _ _) rfl rfl rfl rfl rfl ?_)
                  generalize hr57 : inText x1 64 = r4
                  intro w56 w56p
                  have e58 := e55.trans (lt_eq hr57.symm)
                  have := inText_len x1 64
                  (try simp only [hr57] at *)
                  refine go tbv63ok 2 rfl rfl trivial ?_
                  refine ef (store1 tbv63ok rfl rfl rfl rfl rfl rfl rfl rfl rfl ?_)
                  refine go tbv63ok 2 rfl rfl trivial ?_
                  refine inln rfl rfl rfl trivial ?_
                  refine go tbv63ok 2 rfl rfl trivial ?_
                  refine next ⟨(k + 1), (⟨x.channel, x.kind, x.name, x.other, r4.1, x.head, x.body, x.n, x.m, x.yes⟩ : Method), r4.2⟩ rfl rfl trivial ⟨rfl, rfl, rfl, trivial⟩ ?_ ?_
                  · (try simp only []); omega
                  · exact ⟨by (try simp only []); omega, e58⟩
                · have p60 := df h53
                  have e61 := e52.trans (condF h53)
                  refine go tbv63ok 6 rfl rfl trivial ?_
                  refine cnd rfl (fun h62 => ?_) (fun h62 => ?_)
                  · have p63 := dt h62
                    have e64 := e61.trans (condT h62)
                    refine go tbv63ok 3 rfl rfl trivial ?_
                    refine ef (ecallm (head_Read _) rfl rfl rfl rfl rfl ?_)
                    generalize hr66 : headRead x1 = r5
                    intro w65 w65p
                    have e67 := e64.trans (lt_eq hr66.symm)
                    have := headRead_len x1
                    (try simp only [hr66] at *)
                    refine go tbv63ok 2 rfl rfl trivial ?_
                    refine ef (store1 tbv63ok rfl rfl rfl rfl rfl rfl rfl rfl rfl ?_)
                    refine go tbv63ok 2 rfl rfl trivial ?_
                    refine inln rfl rfl rfl trivial ?_
                    refine go tbv63ok 2 rfl rfl trivial ?_
                    refine next ⟨(k + 1), (⟨x.channel, x.kind, x.name, x.other, x.key, r5.1, x.body, x.n, x.m, x.yes⟩ : Method), r5.2⟩ rfl rfl trivial ⟨rfl, rfl, rfl, trivial⟩ ?_ ?_
                    · (try simp only []); omega
                    · exact ⟨by (try simp only []); omega, e67⟩
                  · have p69 := df h62
                    have e70 := e61.trans (condF h62)
                    refine go tbv63ok 6 rfl rfl trivial ?_
                    refine cnd rfl (fun h71 => ?_) (fun h71 => ?_)
                    · have p72 := dt h71
                      have e73 := e70.trans (condT h71)
                      refine go tbv63ok 3 rfl rfl trivial ?_
                      refine ef (ecallm (in_Text _ _) rfl rfl rfl rfl rfl ?_)
                      generalize hr75 : inText x1 256 = r6
                      intro w74 w74p
                      have e76 := e73.trans (lt_eq hr75.symm)
                      have := inText_len x1 256
                      (try simp only [hr75] at *)
                      refine go tbv63ok 2 rfl rfl trivial ?_
                      refine ef (store1 tbv63ok rfl rfl rfl rfl rfl rfl rfl rfl rfl ?_)
                      refine go tbv63ok 2 rfl rfl trivial ?_
                      refine inln rfl rfl rfl trivial ?_
                      refine go tbv63ok 2 rfl rfl trivial ?_
                      refine next ⟨(k + 1), (⟨x.channel, x.kind, x.name, x.other, x.key, x.head, r6.1, x.n, x.m, x.yes⟩ : Method), r6.2⟩ rfl rfl trivial ⟨rfl, rfl, rfl, trivial⟩ ?_ ?_
                      · (try simp only []); omega
                      · exact ⟨by (try simp only []); omega, e76⟩
                    · have p78 := df h71
                      have e79 := e70.trans (condF h71)
                      refine go tbv63ok 6 rfl rfl trivial ?_
                      refine cnd rfl (fun h80 => ?_) (fun h80 => ?_)
                      · have p81 := dt h80
                        have e82 := e79.trans (condT h80)
                        refine go tbv63ok 3 rfl rfl trivial ?_
                        refine ef (ecallm (in_Num _ _) rfl rfl rfl rfl rfl ?_)
                        generalize hr84 : inNum x1 8 = r7
                        intro w83 w83p
                        have e85 := e82.trans (lt_eq hr84.symm)
                        have := inNum_r x1 8
                        (try simp only [hr84] at *)
                        refine go tbv63ok 2 rfl rfl trivial ?_
                        refine ef (store1 tbv63ok rfl rfl rfl rfl rfl rfl rfl rfl rfl ?_)
                        refine go tbv63ok 2 rfl rfl trivial ?_
                        refine inln rfl rfl rfl trivial ?_
                        refine go tbv63ok 2 rfl rfl trivial ?_
                        refine next ⟨(k + 1), (⟨x.channel, x.kind, x.name, x.other, x.key, x.head, x.body, r7.1, x.m, x.yes⟩ : Method), r7.2⟩ rfl rfl trivial ⟨rfl, rfl, rfl, trivial⟩ ?_ ?_
                        · (try simp only []); omega
                        · exact ⟨by (try simp only []); omega, e85⟩
                      · have p87 := df h80
                        have e88 := e79.trans (condF h80)
                        refine go tbv63ok 6 rfl rfl trivial ?_
                        refine cnd rfl (fun h89 => ?_) (fun h89 => ?_)
                        · have p90 := dt h89
                          have e91 := e88.trans (condT h89)
                          refine go tbv63ok 3 rfl rfl trivial ?_
                          refine ef (ecallm (in_Num _ _) rfl rfl rfl rfl rfl ?_)
                          generalize hr93 : inNum x1 8 = r8
                          intro w92 w92p
                          have e94 := e91.trans (lt_eq hr93.symm)
                          have := inNum_r x1 8
                          (try simp only [hr93] at *)
                          refine go tbv63ok 2 rfl rfl trivial ?_
                          refine ef (store1 tbv63ok rfl rfl rfl rfl rfl rfl rfl rfl rfl ?_)
                          refine go tbv63ok 2 rfl rfl trivial ?_
                          refine inln rfl rfl rfl trivial ?_
                          refine go tbv63ok 2 rfl rfl trivial ?_
                          refine next ⟨(k + 1), (⟨x.channel, x.kind, x.name, x.other, x.key, x.head, x.body, x.n, r8.1, x.yes⟩ : Method), r8.2⟩ rfl rfl trivial ⟨rfl, rfl, rfl, trivial⟩ ?_ ?_
                          · (try simp only []); omega
                          · exact ⟨by (try simp only []); omega, e94⟩
                        · have p96 := df h89
                          have e97 := e88.trans (condF h89)
                          refine go tbv63ok 6 rfl rfl trivial ?_
                          refine cnd rfl (fun h98 => ?_) (fun h98 => ?_)
                          · have p99 := dt h98
                            have e100 := e97.trans (condT h98)
                            refine go tbv63ok 3 rfl rfl trivial ?_
                            refine ef (ecallm (in_Num _ _) rfl rfl rfl rfl rfl ?_)
                            generalize hr102 : inNum x1 1 = r9
                            intro w101 w101p
                            have e103 := e100.trans (lt_eq hr102.symm)
                            have := inNum_r x1 1
                            (try simp only [hr102] at *)
                            refine go tbv63ok 10 rfl rfl trivial ?_
                            refine ef (store1 tbv63ok rfl rfl rfl rfl rfl rfl rfl rfl rfl ?_)
                            refine go tbv63ok 8 rfl rfl trivial ?_
                            refine cnd rfl (fun h105 => ?_) (fun h105 => ?_)
                            · have p106 := dt h105
                              have e107 := e103.trans (condT h105)
                              refine go tbv63ok 2 rfl rfl trivial ?_
                              refine ef (ecallm (in_Fail _ _) rfl rfl rfl rfl rfl fun w108 w108p => ?_)
                              refine go tbv63ok 2 rfl rfl trivial ?_
                              refine inln rfl rfl rfl trivial ?_
                              refine go tbv63ok 2 rfl rfl trivial ?_
                              refine next ⟨(k + 1), (⟨x.channel, x.kind, x.name, x.other, x.key, x.head, x.body, x.n, x.m, decide (r9.1 = 1)⟩ : Method), (inFail r9.2 4)⟩ rfl rfl trivial ⟨rfl, rfl, rfl, trivial⟩ ?_ ?_
                              · (try simp only []); omega
                              · exact ⟨by (try simp only []); omega, e107⟩
                            · have p109 := df h105
                              have e110 := e103.trans (condF h105)
                              refine go tbv63ok 2 rfl rfl trivial ?_
                              refine inln rfl rfl rfl trivial ?_
                              refine go tbv63ok 2 rfl rfl trivial ?_
                              refine next ⟨(k + 1), (⟨x.channel, x.kind, x.name, x.other, x.key, x.head, x.body, x.n, x.m, decide (r9.1 = 1)⟩ : Method), r9.2⟩ rfl rfl trivial ⟨rfl, rfl, rfl, trivial⟩ ?_ ?_
                              · (try simp only []); omega
                              · exact ⟨by (try simp only []); omega, e110⟩
                          · have p111 := df h98
                            have e112 := e97.trans (condF h98)
                            refine go tbv63ok 2 rfl rfl trivial ?_
                            refine inln rfl rfl rfl trivial ?_
                            refine go tbv63ok 2 rfl rfl trivial ?_
                            refine next ⟨(k + 1), x, x1⟩ rfl rfl trivial ⟨rfl, rfl, rfl, trivial⟩ ?_ ?_
                            · (try simp only []); omega
                            · exact ⟨by (try simp only []); omega, e112⟩
      · have e113 := lstep (f := fun zz => method_Of_l0 zz  x x1) hp13_2 (dropN hn14) (method_Of_l0.eq_1 _ _)
        refine go tbv63ok 14 rfl rfl trivial ?_
        refine ef (ecallm (in_End _) rfl rfl rfl rfl rfl fun w114 w114p => ?_)
        refine go tbv63ok 9 rfl rfl trivial ?_
        refine cnd rfl (fun h115 => ?_) (fun h115 => ?_)
        · have h116 := not_t h115
          have p117 := df h116
          have e118 := e113.trans (condT h115)
          refine go tbv63ok 4 rfl rfl trivial ?_
          refine ef (storeA tbv63ok rfl rfl rfl rfl rfl rfl rfl rfl rfl rfl ?_)
          refine go tbv63ok 5 rfl rfl trivial ?_
          exact rt2 rfl rfl (ple_of (fun r : Method × Int => .tup [.agg (Method.pc r.1), .int .i64 r.2]) e118 (ple rfl))
        · have h119 := not_f h115
          have p120 := dt h119
          have e121 := e113.trans (condF h115)
          refine go tbv63ok 6 rfl rfl trivial ?_
          refine callv (method_Method_Check x) (fun r : Int => .int .i64 r) (method_Method_Check_ok _) rfl rfl fun r10 hr122 w123 => ?_
          have e124 := e121.trans (lt_eq hr122)
          have hA124 := check_kind x
          (try rw [← hr122] at hA124)
          refine go tbv63ok 9 rfl rfl trivial ?_
          refine cnd rfl (fun h126 => ?_) (fun h126 => ?_)
          · have h127 := not_t h126
            have p128 := df h127
            have e129 := e124.trans (condT h126)
            refine go tbv63ok 4 rfl rfl trivial ?_
            refine ef (storeA tbv63ok rfl rfl rfl rfl rfl rfl rfl rfl rfl rfl ?_)
            refine go tbv63ok 5 rfl rfl trivial ?_
            exact rt2 rfl rfl (ple_of (fun r : Method × Int => .tup [.agg (Method.pc r.1), .int .i64 r.2]) e129 (ple rfl))
          · have h130 := not_f h126
            have p131 := dt h130
            have e132 := e124.trans (condF h126)
            refine go tbv63ok 5 rfl rfl trivial ?_
            refine ef (storeA tbv63ok rfl rfl rfl rfl rfl rfl rfl rfl rfl rfl ?_)
            refine go tbv63ok 4 rfl rfl trivial ?_
            exact rt2 rfl rfl (ple_of (fun r : Method × Int => .tup [.agg (Method.pc r.1), .int .i64 r.2]) e132 (ple rfl))
end Go.SW.V
set_option linter.unusedVariables false
set_option maxRecDepth 100000
set_option maxHeartbeats 4000000
namespace Go.SW.V
open Go.SW Go.Proofs
theorem cb54 : Callable Tryz.prog 54 := callable_of Tryz.func54 (by kernel_rfl) (by kernel_rfl)
def tbv64 : Tb := [(3, ⟨.int .i64, 1, 8, [.int .i64 0]⟩),
  (25, ⟨.int .u64, 1, 8, [.int .u64 0]⟩)]
theorem tbv64ok : tbB Tryz.prog tbv64 = true := by kernel_rfl
theorem r01_In_Text_ok (i : RIn) (most : Int) (hi : RW i) : Fm Tryz.prog gb 54 [.int .i64 most] 101 (RIn.pc i) (.str ((r01_In_Text i most).1)) (RIn.pc ((r01_In_Text i most).2)) := by
  refine fm_cw tbv64ok Tryz.func54 rfl Tryz.ntmps54 rfl cb54 rfl rfl rfl rfl fun w wp b N H hG => ?_
  have most_r : -9223372036854775808 ≤ most ∧ most ≤ 9223372036854775807 := w.1
  have i_s_l : i.s.length ≤ 9223372036854775807 := wp.1
  have i_pos_r : -9223372036854775808 ≤ i.pos ∧ i.pos ≤ 9223372036854775807 := wp.2.1
  have i_code_r : -9223372036854775808 ≤ i.code ∧ i.code ≤ 9223372036854775807 := wp.2.2.1
  have e0 := r01_In_Text.eq_1 i most
  refine go tbv64ok 8 rfl rfl trivial ?_
  refine ef (ecallm (r01_In_Num_ok _ _ (by first | assumption | exact rw_new _ | exact ⟨by (try simp only []); omega, by (try simp only []); omega⟩)) rfl rfl rfl rfl rfl ?_)
  generalize hr2 : r01_In_Num i 2 = r
  intro w1 w1p
  have e3 := e0.trans (lt_eq hr2.symm)
  have hA3 := rw_Num i 2 (by first | assumption | exact rw_new _)
  (try rw [← hr2.symm] at hA3)
  have hA4 := num_le i 2
  (try rw [← hr2.symm] at hA4)
  refine go tbv64ok 5 rfl rfl trivial ?_
  obtain ⟨o, e_o, q_o⟩ := lt1_split e3
  refine joinc (ι := RIn) [0, 4, 5] [] (fun x => []) (fun x => [(0, .box b 101 [.str x.s, .int .i64 x.pos, .int .i64 x.code])]) (fun x => o = x ∧ RW x) ?_ ?_
  · refine go tbv64ok 7 rfl rfl trivial ?_
    refine cnd rfl (fun h6 => ?_) (fun h6 => ?_)
    · have p7 := dt h6
      have e8 := e_o.trans (condT h6)
      refine go tbv64ok 2 rfl rfl trivial ?_
      refine ef (ecallm (r01_In_Fail_ok _ _) rfl rfl rfl rfl rfl ?_)
      generalize hr10 : r01_In_Fail r.2 5 = r1
      intro w9 w9p
      have e11 := e8.trans (lt_eq hr10.symm)
      have hA11 := rw_Fail r.2 5 (by first | assumption | exact rw_new _)
      (try rw [← hr10.symm] at hA11)
      refine go tbv64ok 1 rfl rfl trivial ?_
      refine next r1 rfl rfl trivial ⟨rfl, trivial⟩ (by decide) ?_
      exact ⟨e11, (by first | assumption | exact rw_new _)⟩
    · have p13 := df h6
      have e14 := e_o.trans (condF h6)
      refine go tbv64ok 1 rfl rfl trivial ?_
      refine next r.2 rfl rfl trivial ⟨rfl, trivial⟩ (by decide) ?_
      exact ⟨e14, (by first | assumption | exact rw_new _)⟩
  · rintro x ⟨hp15, hp15_3⟩
    have e16 := lt1_fin q_o hp15
    refine go tbv64ok 5 rfl rfl trivial ?_
    refine ef (ecallm (r01_In_Raw_ok _ _ (by first | assumption | exact rw_new _ | exact ⟨by (try simp only []); omega, by (try simp only []); omega⟩)) rfl rfl rfl rfl rfl ?_)
    generalize hr18 : r01_In_Raw x (IntKind.wrap .i64 r.1) = r2
    intro w17 w17p
    have e19 := e16.trans (lt_eq hr18.symm)
    have hA19 := rw_Raw x (IntKind.wrap .i64 r.1) (by first | assumption | exact rw_new _)
    (try rw [← hr18.symm] at hA19)
    have hA20 := raw_le x (IntKind.wrap .i64 r.1)
    (try rw [← hr18.symm] at hA20)
    refine go tbv64ok 4 rfl rfl trivial ?_
    exact rm1 rfl rfl (ple_of (fun r : Bs × RIn => .str r.1) e19 (ple rfl)) rfl rfl rfl (ples_of (fun r : Bs × RIn => RIn.pc r.2) e19 (ples rfl))
end Go.SW.V
