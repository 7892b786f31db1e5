/-
  A part of the proof of ChansPlay: The walks of this seat, printed by program: octet.Out.Num, octet.Out.Raw, octet.Out.String, octet.Out.Text. The walks of this seat, printed by program: octet.New, octet.In.Fail, octet.In.Raw. The walks of this seat, printed by program: strings.Split, words.Split, words.key, words.Key. The walks of this seat, printed by program: api.Pair], head.Same, api.Pair], head.Find$1, head.Find, head.pair, head.Check. The walks of this seat, printed by program: deed.sameBind, deed.bit. The walks of this seat, printed by program: octet.In.Num. The walks of this seat, printed by program: words.Matches, words.Pattern. The walks of this seat, printed by program: head.Bytes. The walks of this seat, printed by program: mail.Check, mail.Bytes, draft.Life, stairwellref26.Life, deed.maybe, deed.bound, mail.Same, deed.Same. The walks of this seat, printed by program: deed.Deed.told, deed.first, deed.Deed.Check. The walks of this seat, printed by program: deed.Deed.Bytes. The walks of this seat, printed by program: stairwellref04.Name, stairwellref04.Split, stairwellref04.Key. The walks of this seat, printed by program: stairwellref09.Pair, stairwellref09.Check, stairwellref09.Same. The walks of this seat, printed by program: stairwelllaw09.Light, stairwelllaw13.Light, stairwelllaw22.Light, stairwelllaw14.To, stairwelllaw22.To.
-/
import Derived.Test.YtdkpbleeehmhjaaGreatDoorProg
import Derived.Test.YtdkpbleeehmhjaaGreatDoorChansPlayP3
import Derived.KernelRfl
import Derived.Test.YtdkpbleeehmhjaaGreatDoorChansPlayP2
set_option linter.unusedVariables false
set_option linter.unusedSimpArgs false
set_option linter.unusedVariables false
set_option maxRecDepth 100000
set_option maxHeartbeats 4000000
namespace Go.SW.V
open Go.SW Go.Proofs
theorem cb116 : Callable Tryz.prog 116 := callable_of Tryz.func116 (by kernel_rfl) (by kernel_rfl)
theorem cb118 : Callable Tryz.prog 118 := callable_of Tryz.func118 (by kernel_rfl) (by kernel_rfl)
theorem cb121 : Callable Tryz.prog 121 := callable_of Tryz.func121 (by kernel_rfl) (by kernel_rfl)
theorem cb122 : Callable Tryz.prog 122 := callable_of Tryz.func122 (by kernel_rfl) (by kernel_rfl)
def tbv2 : Tb := [(3, ⟨.int .i64, 1, 8, [.int .i64 0]⟩),
  (9, ⟨.str, 1, 16, [.str []]⟩),
  (22, ⟨.int .u64, 1, 8, [.int .u64 0]⟩),
  (31, ⟨.int .i64, 1, 8, [.int .i64 0]⟩),
  (170, ⟨.agg [(0, 1), (1, 1)], 2, 24, [.str [], .int .i64 0]⟩)]
theorem tbv2ok : tbB Tryz.prog tbv2 = true := by kernel_rfl
theorem out_Num (o : Out) (n bytes : Int) (hlen : o.s.length ≤ 4611686018427387904) : Fn Tryz.prog gb 116 [.agg (Out.pc o), .int .u64 n, .int .i64 bytes] (.agg (Out.pc (outNum o n bytes))) :=
  fn_of_pr (vs := [.agg [str o.s, .int .i64 o.err].toArray, .int .u64 n, .int .i64 bytes]) (v := .agg [str (outNum o n bytes).s, .int .i64 (outNum o n bytes).err].toArray) cb116 rfl rfl
    (fun w H => Sims.cons (Sim.toAgg (Sims.cons (Sim.str w.1.1) (Sims.cons (Sim.int w.1.2.1.1 w.1.2.1.2) Sims.nil))) (Sims.cons (Sim.int w.2.1.1 w.2.1.2) (Sims.cons (Sim.int w.2.2.1.1 w.2.2.1.2) Sims.nil)))
    (fun w H => Sim.toAgg (Sims.cons (Sim.str (by have := outNum_len o n bytes; omega)) (Sims.cons (Sim.int w.1.2.1.1 w.1.2.1.2) Sims.nil)))
    (fun w H hG => SW.out_Num H o n w.2.1 bytes w.2.2.1 hlen)
theorem out_Raw (o : Out) (s : Bs) (hlen : o.s.length + s.length ≤ 4611686018427387904) : Fn Tryz.prog gb 121 [.agg (Out.pc o), .str s] (.agg (Out.pc (outRaw o s))) := by
  refine fn_cw tbv2ok Tryz.func121 rfl Tryz.ntmps121 rfl cb121 rfl rfl fun w N H hG => ?_
  have s_l : s.length ≤ 9223372036854775807 := w.2.1
  refine go tbv2ok 2 rfl rfl trivial ?_
  refine ef (boxA 0 rfl rfl rfl fun b1 => ?_)
  refine ef (alloc tbv2ok 1 rfl rfl rfl rfl fun b2 => ?_)
  refine go tbv2ok 9 rfl rfl ⟨(by first | omega | (simp <;> omega)), trivial⟩ ?_
  refine ef (store1 tbv2ok rfl rfl rfl rfl rfl rfl rfl rfl rfl ?_)
  refine go tbv2ok 5 rfl rfl trivial ?_
  refine ef (storeA tbv2ok rfl rfl rfl rfl rfl rfl rfl rfl rfl rfl ?_)
  refine go tbv2ok 3 rfl rfl trivial ?_
  refine rt1 rfl rfl ?_
  refine ple ?_
  rfl
theorem out_String (o : Out) : Fn Tryz.prog gb 122 [.agg (Out.pc o)] (.str o.s) := by
  refine fn_cw tbv2ok Tryz.func122 rfl Tryz.ntmps122 rfl cb122 rfl rfl fun w N H hG => ?_
  refine go tbv2ok 2 rfl rfl trivial ?_
  refine ef (boxA 0 rfl rfl rfl fun b1 => ?_)
  refine go tbv2ok 11 rfl rfl trivial ?_
  refine rt1 rfl rfl ?_
  refine ple ?_
  rfl
theorem out_Text (o : Out) (s : Bs) (hlen : o.s.length + s.length ≤ 4611686018427386000) : Fn Tryz.prog gb 118 [.agg (Out.pc o), .str s] (.agg (Out.pc (outText o s))) := by
  refine fn_cw tbv2ok Tryz.func118 rfl Tryz.ntmps118 rfl cb118 rfl rfl fun w N H hG => ?_
  have s_l : s.length ≤ 9223372036854775807 := w.2.1
  refine go tbv2ok 2 rfl rfl trivial ?_
  refine ef (boxA 0 rfl rfl rfl fun b1 => ?_)
  refine ef (alloc tbv2ok 1 rfl rfl rfl rfl fun b2 => ?_)
  refine go tbv2ok 10 rfl rfl trivial ?_
  refine cnd rfl (fun h3 => ?_) (fun h3 => ?_)
  · have p4 := dt h3
    refine go tbv2ok 8 rfl rfl trivial ?_
    refine cnd rfl (fun h5 => ?_) (fun h5 => ?_)
    · have p6 := dt h5
      refine go tbv2ok 2 rfl rfl trivial ?_
      refine ef (store1 tbv2ok rfl rfl rfl rfl rfl rfl rfl rfl rfl ?_)
      refine go tbv2ok 5 rfl rfl trivial ?_
      refine ef (storeA tbv2ok rfl rfl rfl rfl rfl rfl rfl rfl rfl rfl ?_)
      refine go tbv2ok 4 rfl rfl trivial ?_
      refine rt1 rfl rfl ?_
      refine ple ?_
      simp [outText, Out.pc, *]
    · have p7 := df h5
      refine go tbv2ok 5 rfl rfl trivial ?_
      refine ef (storeA tbv2ok rfl rfl rfl rfl rfl rfl rfl rfl rfl rfl ?_)
      refine go tbv2ok 4 rfl rfl trivial ?_
      refine rt1 rfl rfl ?_
      refine ple ?_
      simp [outText, Out.pc, *]
  · have p8 := df h3
    refine go tbv2ok 7 rfl rfl trivial ?_
    refine q1 (qconv tbv2ok rfl rfl rfl rfl (rg_u64 (by omega))) rfl fun w9 => ?_
    refine call (out_Num _ _ _ (by first | omega | (have := hrl (by assumption); omega) | (simp [outNum, outRaw, numB_len, numK] <;> omega) | (have := hrl (by assumption); simp [outNum, outRaw, numB_len, numK] <;> omega))) rfl rfl fun w10 => ?_
    have := outNum_len o (s.length : Int) 2
    refine go tbv2ok 1 rfl rfl trivial ?_
    refine call (out_Raw _ _ (by first | omega | (have := hrl (by assumption); omega) | (simp [outNum, outRaw, numB_len, numK] <;> omega) | (have := hrl (by assumption); simp [outNum, outRaw, numB_len, numK] <;> omega))) rfl rfl fun w11 => ?_
    have := outRaw_len (outNum o (s.length : Int) 2) s
    refine ef (storeA tbv2ok rfl rfl rfl rfl rfl rfl rfl rfl rfl rfl ?_)
    refine go tbv2ok 3 rfl rfl trivial ?_
    refine rt1 rfl rfl ?_
    refine ple ?_
    simp [outText, Out.pc, *]
end Go.SW.V
set_option linter.unusedVariables false
set_option maxRecDepth 100000
set_option maxHeartbeats 4000000
namespace Go.SW.V
open Go.SW Go.Proofs
theorem cb175 : Callable Tryz.prog 175 := callable_of Tryz.func175 (by kernel_rfl) (by kernel_rfl)
theorem cb180 : Callable Tryz.prog 180 := callable_of Tryz.func180 (by kernel_rfl) (by kernel_rfl)
theorem cb185 : Callable Tryz.prog 185 := callable_of Tryz.func185 (by kernel_rfl) (by kernel_rfl)
def tbv3 : Tb := [(9, ⟨.str, 1, 16, [.str []]⟩),
  (31, ⟨.int .i64, 1, 8, [.int .i64 0]⟩),
  (234, ⟨.agg [(0, 1), (1, 1)], 2, 24, [.str [], .int .i64 0]⟩)]
theorem tbv3ok : tbB Tryz.prog tbv3 = true := by kernel_rfl
theorem octet_New (s : Bs) : Fb Tryz.prog gb 175 [.str s] 234 (In.pc (⟨s, 0⟩)) := by
  refine fb_cw tbv3ok Tryz.func175 rfl Tryz.ntmps175 rfl cb175 rfl rfl fun w N H hG => ?_
  have s_l : s.length ≤ 9223372036854775807 := w.1
  refine go tbv3ok 9 rfl rfl trivial ?_
  refine ef (boxA 0 rfl rfl rfl fun b1 => ?_)
  refine go tbv3ok 4 rfl rfl trivial ?_
  refine rb rfl rfl rfl rfl rfl ?_
  exact ples_rfl
theorem in_Fail (i : In) (code : Int) : Fm Tryz.prog gb 185 [.int .i64 code] 234 (In.pc i) (.tup []) (In.pc (inFail i code)) := by
  refine fm_cw tbv3ok Tryz.func185 rfl Tryz.ntmps185 rfl cb185 rfl rfl rfl rfl fun w wp b N H hG => ?_
  have code_r : -9223372036854775808 ≤ code ∧ code ≤ 9223372036854775807 := w.1
  refine go tbv3ok 3 rfl rfl trivial ?_
  refine q1 (qpne Tryz.underlying229 rfl rfl) rfl fun w1 => ?_
  refine go tbv3ok 13 rfl rfl ⟨(fun hc => hc), (fun hc => hc), (fun hc => hc), (fun hc => hc), rfl, rfl, (fun hc => hc), rfl, rfl, trivial⟩ ?_
  refine cnd rfl (fun h2 => ?_) (fun h2 => ?_)
  · have h3 := bl h2
    have h4 := bl h3
    have h5 := br h3
    have p6 := dt h5
    have h7 := br h2
    have h8 := not_t h7
    have p9 := df h8
    refine go tbv3ok 6 rfl rfl trivial ?_
    refine ef (store1 tbv3ok rfl rfl rfl rfl rfl rfl rfl rfl rfl ?_)
    refine go tbv3ok 2 rfl rfl trivial ?_
    refine ef (store1 tbv3ok rfl rfl rfl rfl rfl rfl rfl rfl rfl ?_)
    refine go tbv3ok 1 rfl rfl trivial ?_
    refine rm0n rfl rfl ?_ rfl rfl rfl ?_
    · exact ple (by first | rfl | (simp [inFail, *]; done))
    · refine ples ?_
      first | rfl | (simp [inFail, In.pc, *]; done) | (simp only [inFail]; split <;> simp_all [In.pc])
  · refine go tbv3ok 1 rfl rfl trivial ?_
    refine rm0n rfl rfl ?_ rfl rfl rfl ?_
    · exact ple (by first | rfl | (simp [inFail, *]; done))
    · refine ples ?_
      first | rfl | (simp [inFail, In.pc, *]; done) | (simp only [inFail]; split <;> simp_all [In.pc])
theorem in_Raw (i : In) (n : Int) : Fm Tryz.prog gb 180 [.int .i64 n] 234 (In.pc i) (.str ((inRaw i n).1)) (In.pc ((inRaw i n).2)) := by
  refine fm_cw tbv3ok Tryz.func180 rfl Tryz.ntmps180 rfl cb180 rfl rfl rfl rfl fun w wp b N H hG => ?_
  have n_r : -9223372036854775808 ≤ n ∧ n ≤ 9223372036854775807 := w.1
  refine go tbv3ok 11 rfl rfl trivial ?_
  refine q1 (qpeq Tryz.underlying229 rfl rfl) rfl fun w1 => ?_
  refine go tbv3ok 14 rfl rfl trivial ?_
  refine cnd rfl (fun h2 => ?_) (fun h2 => ?_)
  · have h3 := not_t h2
    have p4 := df h3
    refine go tbv3ok 2 rfl rfl trivial ?_
    refine cndT rfl h2 ?_
    refine go tbv3ok 8 rfl rfl trivial ?_
    refine rm1 rfl rfl ?_ rfl rfl rfl ?_
    · exact ple (by first | rfl | (simp [inRaw, inFail, *]; done))
    · refine ples ?_
      first | rfl | (simp [inRaw, inFail, In.pc, *]; done) | (simp only [inRaw, inFail]; split <;> simp_all [In.pc])
  · have h5 := not_f h2
    have p6 := dt h5
    refine go tbv3ok 6 rfl rfl trivial ?_
    refine cnd rfl (fun h7 => ?_) (fun h7 => ?_)
    · have p8 := dt h7
      refine go tbv3ok 8 rfl rfl trivial ?_
      refine rm1 rfl rfl ?_ rfl rfl rfl ?_
      · exact ple (by first | rfl | (simp [inRaw, inFail, *]; done))
      · refine ples ?_
        first | rfl | (simp [inRaw, inFail, In.pc, *]; done) | (simp only [inRaw, inFail]; split <;> simp_all [In.pc])
    · have p9 := df h7
      refine go tbv3ok 12 rfl rfl trivial ?_
      refine cnd rfl (fun h10 => ?_) (fun h10 => ?_)
      · have p11 := dt h10
        refine go tbv3ok 3 rfl rfl trivial ?_
        refine ef (ecallm (in_Fail _ _) rfl rfl rfl rfl rfl fun w12 w12p => ?_)
        refine go tbv3ok 10 rfl rfl trivial ?_
        refine rm1 rfl rfl ?_ rfl rfl rfl ?_
        · exact ple (by first | rfl | (simp [inRaw, inFail, *]; done))
        · refine ples ?_
          first | rfl | (simp [inRaw, inFail, In.pc, *]; done) | (simp only [inRaw, inFail]; split <;> simp_all [In.pc])
      · have p13 := df h10
        refine go tbv3ok 10 rfl rfl trivial ?_
        refine q1 (sshi tbv3ok (n).toNat rfl rfl rfl rfl (by omega) (by omega)) rfl fun w14 => ?_
        refine go tbv3ok 11 rfl rfl trivial ?_
        refine q1 (sslo tbv3ok (n).toNat rfl rfl rfl rfl (by omega) (by omega)) rfl fun w15 => ?_
        refine go tbv3ok 2 rfl rfl trivial ?_
        refine ef (store1 tbv3ok rfl rfl rfl rfl rfl rfl rfl rfl rfl ?_)
        refine go tbv3ok 9 rfl rfl trivial ?_
        refine rm1 rfl rfl ?_ rfl rfl rfl ?_
        · exact ple (by first | rfl | (simp [inRaw, inFail, *]; done))
        · refine ples ?_
          first | rfl | (simp [inRaw, inFail, In.pc, *]; done) | (simp only [inRaw, inFail]; split <;> simp_all [In.pc])
end Go.SW.V
set_option linter.unusedVariables false
set_option maxRecDepth 100000
set_option maxHeartbeats 4000000
namespace Go.SW.V
open Go.SW Go.Proofs
theorem cb129 : Callable Tryz.prog 129 := callable_of Tryz.func129 (by kernel_rfl) (by kernel_rfl)
theorem cb141 : Callable Tryz.prog 141 := callable_of Tryz.func141 (by kernel_rfl) (by kernel_rfl)
theorem cb159 : Callable Tryz.prog 159 := callable_of Tryz.func159 (by kernel_rfl) (by kernel_rfl)
theorem cb170 : Callable Tryz.prog 170 := callable_of Tryz.func170 (by kernel_rfl) (by kernel_rfl)
def tbv4 : Tb := [(9, ⟨.str, 1, 16, [.str []]⟩),
  (146, ⟨.slc 9, 1, 24, [.sl strc []]⟩)]
theorem tbv4ok : tbB Tryz.prog tbv4 = true := by kernel_rfl
theorem strings_Split (s p : Bs) (hp : p = [46]) (hs : s.length < 4294967281) : Fn Tryz.prog gb 170 [.str s, .str p] (.sl strc (dots s)) :=
  ⟨cb170, rfl, fun N H L w us hg hsim hm => by
    obtain ⟨v1, _, rfl, h1, h2⟩ := hsim.inv_cons
    obtain ⟨v2, _, rfl, h3, h4⟩ := h2.inv_cons
    cases h4.inv_nil
    rw [h1.inv_str.1, h3.inv_str.1]
    refine (SW.strings_Split H s p hp (gbML hg) hs N L w hm).mono fun _ _ ⟨v, H', h5, ⟨a, c, h6, h7⟩, h8, h9⟩ => ⟨v, H', h5, ?_, h8, h9⟩
    rw [h6]
    exact Sim.of_slh (k := 1) ⟨h7.1, fun m hm => by
      obtain ⟨cs, hE, hat⟩ := h7.2 m hm
      obtain ⟨hE1, hE2⟩ := hE
      subst hE1
      exact ⟨_, ⟨rfl, Sims.nil.cons (Sim.str hE2), fun u hu => by simp at hu; subst hu; rfl⟩, hat⟩⟩ (by have := dots_le s; omega)⟩
theorem words_Split (s : Bs) (hs : s.length < 4294967281) : Fn Tryz.prog gb 159 [.str s] (.sl strc (wordsOf s)) := by
  refine fn_cw tbv4ok Tryz.func159 rfl Tryz.ntmps159 rfl cb159 rfl rfl fun w N H hG => ?_
  have s_l : s.length ≤ 9223372036854775807 := w.1
  refine go tbv4ok 12 rfl rfl trivial ?_
  refine cnd rfl (fun h1 => ?_) (fun h1 => ?_)
  · have p2 := dt h1
    refine go tbv4ok 7 rfl rfl trivial ?_
    refine rt1 rfl rfl ?_
    refine ple_nilx ?_
    simp [wordsOf, *]
  · have p3 := df h1
    refine go tbv4ok 5 rfl rfl trivial ?_
    refine call (strings_Split _ _ (by rfl) (by omega)) rfl rfl fun w4 => ?_
    refine go tbv4ok 4 rfl rfl trivial ?_
    refine rt1 rfl rfl ?_
    refine ple ?_
    simp [wordsOf, *]
theorem words_key (s : Bs) (besides : List Bs) : Fn Tryz.prog gb 141 [.str s, .sl strc besides] (.int .i64 (keyE besides s)) := by
  refine fn_cw tbv4ok Tryz.func141 rfl Tryz.ntmps141 rfl cb141 rfl rfl fun w N H hG => ?_
  have s_l : s.length ≤ 9223372036854775807 := w.1
  have besides_l : besides.length ≤ 140737488355328 := w.2.1.1
  refine go tbv4ok 14 rfl rfl trivial ?_
  refine cnd rfl (fun h1 => ?_) (fun h1 => ?_)
  · have p2 := dt h1
    refine go tbv4ok 8 rfl rfl trivial ?_
    refine rt1 rfl rfl ?_
    refine ple ?_
    simp [keyE, *]
  · have p3 := df h1
    refine go tbv4ok 9 rfl rfl trivial ?_
    refine call (words_Split _ (by omega)) rfl rfl fun w4 => ?_
    refine go tbv4ok 5 rfl rfl trivial ?_
    refine loop (ι := Nat) [0, 1, 9, 10, 11, 12, 13, 14] [] (fun k => [(15, .int .i64 (k : Int))]) (fun k => []) (fun k => k ≤ (wordsOf s).length ∧ (wordsOf s).any (isBad besides) = ((wordsOf s).drop k).any (isBad besides)) (fun k => (wordsOf s).length - k) 0 ⟨rfl, trivial⟩ trivial ?_ ?_
    · exact ⟨Nat.zero_le _, by simp⟩
    · rintro k hp5
      obtain ⟨hk1, hk2⟩ := hp5
      have hwl := words_le s
      refine go tbv4ok 6 rfl rfl trivial ?_
      refine cnd rfl (fun h6 => ?_) (fun h6 => ?_)
      · have p7 := dt h6
        obtain ⟨c8, hc9⟩ := getE (xs := wordsOf s) (m := k) (by omega)
        have c8_l : c8.length ≤ 9223372036854775807 := (w4.2 c8 (List.mem_of_getElem? hc9)).1
        refine go tbv4ok 6 rfl rfl trivial ?_
        refine q1 (qidx tbv4ok k rfl rfl rfl hc9 rfl rfl rfl rfl) rfl fun w10 => ?_
        refine go tbv4ok 13 rfl rfl trivial ?_
        refine loop (ι := Nat) [0, 1, 6, 9, 10, 11, 12, 13, 14, 15, 16, 17, 18, 19, 20] [] (fun j => [(21, .int .i64 (j : Int))]) (fun j => []) (fun j => j ≤ besides.length ∧ besides.contains c8 = (besides.drop j).contains c8) (fun j => besides.length - j) 0 ⟨rfl, trivial⟩ trivial ?_ ?_
        · exact ⟨Nat.zero_le _, by simp⟩
        · rintro j hp11
          obtain ⟨hj1, hj2⟩ := hp11
          refine go tbv4ok 6 rfl rfl trivial ?_
          refine cnd rfl (fun h12 => ?_) (fun h12 => ?_)
          · have p13 := dt h12
            obtain ⟨c14, hc15⟩ := getE (xs := besides) (m := j) (by omega)
            have c14_l : c14.length ≤ 9223372036854775807 := (w.2.1.2 c14 (List.mem_of_getElem? hc15)).1
            refine go tbv4ok 6 rfl rfl trivial ?_
            refine q1 (qidx tbv4ok j rfl rfl rfl hc15 rfl rfl rfl rfl) rfl fun w16 => ?_
            refine go tbv4ok 11 rfl rfl trivial ?_
            refine cnd rfl (fun h17 => ?_) (fun h17 => ?_)
            · have p18 := dt h17
              refine go tbv4ok 12 rfl rfl ⟨(by omega), trivial⟩ ?_
              refine next (k + 1) rfl rfl ⟨rfl, trivial⟩ trivial ?_ ?_
              · omega
              · refine ⟨by omega, ?_⟩
                rw [hk2, dropE hc9, List.any_cons]
                have hb : isBad besides c8 = false := by
                  unfold isBad
                  rw [hj2, dropE hc15]
                  first | (simp [*]; done) | simp_all
                simp [hb]
            · have p19 := df h17
              refine go tbv4ok 7 rfl rfl ⟨(by omega), trivial⟩ ?_
              refine next (j + 1) rfl rfl ⟨rfl, trivial⟩ trivial ?_ ?_
              · omega
              · refine ⟨by omega, ?_⟩
                rw [hj2, dropE hc15, List.contains_cons]
                simp [*]
          · have p20 := df h12
            refine go tbv4ok 11 rfl rfl trivial ?_
            refine callg rfl (fun hc => (words_plain _)) rfl ⟨(fun hc => hc), trivial⟩ rfl rfl fun _ => ?_
            refine go tbv4ok 4 rfl rfl ⟨(fun hc => hc), rfl, rfl, trivial⟩ ?_
            refine cnd rfl (fun h21 => ?_) (fun h21 => ?_)
            · refine go tbv4ok 12 rfl rfl trivial ?_
              refine rt1 rfl rfl ?_
              refine ple ?_
              have hb : isBad besides c8 = true := by
                unfold isBad
                rw [hj2, List.drop_of_length_le (by omega)]
                first | (simp [*]; done) | simp_all
              unfold keyE
              rw [if_neg (by omega), hk2, dropE hc9, List.any_cons, hb]
              rfl
            · have h22 := orl h21
              have p23 := df h22
              have h24 := orr h21
              have h25 := not_f h24
              refine go tbv4ok 7 rfl rfl ⟨(by omega), trivial⟩ ?_
              refine next (k + 1) rfl rfl ⟨rfl, trivial⟩ trivial ?_ ?_
              · omega
              · refine ⟨by omega, ?_⟩
                rw [hk2, dropE hc9, List.any_cons]
                have hb : isBad besides c8 = false := by
                  unfold isBad
                  rw [hj2, List.drop_of_length_le (by omega)]
                  first | (simp [*]; done) | simp_all
                simp [hb]
      · have p26 := df h6
        refine go tbv4ok 12 rfl rfl trivial ?_
        refine rt1 rfl rfl ?_
        refine ple ?_
        unfold keyE
        rw [if_neg (by omega), hk2, List.drop_of_length_le (by omega)]
        rfl
theorem words_Key (s : Bs) : Fn Tryz.prog gb 129 [.str s] (.int .i64 (keyE [] s)) := by
  refine fn_cw tbv4ok Tryz.func129 rfl Tryz.ntmps129 rfl cb129 rfl rfl fun w N H hG => ?_
  have s_l : s.length ≤ 9223372036854775807 := w.1
  refine go tbv4ok 8 rfl rfl trivial ?_
  refine call (Fn.le (words_key _ []) (ples_cons (ple rfl) (ples_cons ple_nil ples_nil)) (ple rfl) rfl) rfl rfl fun w1 => ?_
  refine go tbv4ok 4 rfl rfl trivial ?_
  refine rt1 rfl rfl ?_
  refine ple ?_
  rfl
end Go.SW.V
set_option linter.unusedVariables false
set_option maxRecDepth 100000
set_option maxHeartbeats 4000000
namespace Go.SW.V
open Go.SW Go.Proofs
theorem ag2 : Ag Tryz.prog 2 false := fun w => by kernel_rfl
theorem ag5 : Ag Tryz.prog 5 false := fun w => by kernel_rfl
theorem ag9 : Ag Tryz.prog 9 false := fun w => by kernel_rfl
theorem cb109 : Callable Tryz.prog 109 := callable_of Tryz.func109 (by kernel_rfl) (by kernel_rfl)
theorem cb128 : Callable Tryz.prog 128 := callable_of Tryz.func128 (by kernel_rfl) (by kernel_rfl)
theorem cb139 : Callable Tryz.prog 139 := callable_of Tryz.func139 (by kernel_rfl) (by kernel_rfl)
theorem cb140 : Callable Tryz.prog 140 := callable_of Tryz.func140 (by kernel_rfl) (by kernel_rfl)
theorem cb156 : Callable Tryz.prog 156 := callable_of Tryz.func156 (by kernel_rfl) (by kernel_rfl)
theorem cb157 : Callable Tryz.prog 157 := callable_of Tryz.func157 (by kernel_rfl) (by kernel_rfl)
theorem cb158 : Callable Tryz.prog 158 := callable_of Tryz.func158 (by kernel_rfl) (by kernel_rfl)
theorem eqg139 : Tryz.prog.eqGuardType Tryz.prog.depth 139 = false := by kernel_rfl
theorem mixd : Tryz.prog.follows .mixedOrders = true := by kernel_rfl
theorem veq139 (p q : Pair) : ∀ (H : Hp) (vs us : List Value), Sims H (Pair.pc p) vs → Sims H (Pair.pc q) us → EqV Tryz.prog 10000 139 (.agg vs.toArray) (.agg us.toArray) (decide (p = q)) := by
  intro H vs us hv hu
  obtain ⟨_, _, rfl, v0, v_0⟩ := hv.inv_cons
  obtain ⟨_, _, rfl, v1, v_1⟩ := v_0.inv_cons
  obtain ⟨_, _, rfl, v2, v_2⟩ := v_1.inv_cons
  obtain ⟨_, _, rfl, v3, v_3⟩ := v_2.inv_cons
  cases v_3.inv_nil
  cases v0.inv_str.1; cases v1.inv_int.1; cases v2.inv_int.1; cases v3.inv_str.1
  obtain ⟨_, _, rfl, u0, u_0⟩ := hu.inv_cons
  obtain ⟨_, _, rfl, u1, u_1⟩ := u_0.inv_cons
  obtain ⟨_, _, rfl, u2, u_2⟩ := u_1.inv_cons
  obtain ⟨_, _, rfl, u3, u_3⟩ := u_2.inv_cons
  cases u_3.inv_nil
  cases u0.inv_str.1; cases u1.inv_int.1; cases u2.inv_int.1; cases u3.inv_str.1
  exact EqV.to (eqv_agg Tryz.underlying139 (by kernel_rfl) (eqf_1 (by decide) ag9 rfl rfl (eqv_str Tryz.underlying9) (eqf_1 (by decide) ag5 rfl rfl (eqv_int Tryz.underlying5) (eqf_1 (by decide) ag2 rfl rfl (eqv_int Tryz.underlying2) (eqf_1 (by decide) ag9 rfl rfl (eqv_str Tryz.underlying9) eqf_nil))))) (by obtain ⟨a0, a1, a2, a3⟩ := p; obtain ⟨b0, b1, b2, b3⟩ := q; rw [Bool.eq_iff_iff]; simp)
def tbv5 : Tb := [(2, ⟨.int .i64, 1, 8, [.int .i64 0]⟩),
  (5, ⟨.int .u8, 1, 1, [.int .u8 0]⟩),
  (9, ⟨.str, 1, 16, [.str []]⟩),
  (47, ⟨.slc 139, 1, 24, [.sl Pair.pc []]⟩),
  (139, ⟨.agg [(0, 1), (1, 1), (2, 1), (3, 1)], 4, 48, [.str [], .int .u8 0, .int .i64 0, .str []]⟩)]
theorem tbv5ok : tbB Tryz.prog tbv5 = true := by kernel_rfl
theorem eq_Pair (a : List Pair) (b : List Pair) : Fn Tryz.prog gb 156 [.sl Pair.pc a, .sl Pair.pc b] (.bool (decide (a = b))) := by
  refine fn_cw tbv5ok Tryz.func156 rfl Tryz.ntmps156 rfl cb156 rfl rfl fun w N H hG => ?_
  have a_l : a.length ≤ 140737488355328 := w.1.1
  have b_l : b.length ≤ 140737488355328 := w.2.1.1
  refine go tbv5ok 15 rfl rfl trivial ?_
  refine cnd rfl (fun h1 => ?_) (fun h1 => ?_)
  · have h2 := not_t h1
    have p3 := df h2
    refine go tbv5ok 7 rfl rfl trivial ?_
    refine rt1 rfl rfl ?_
    refine ple ?_
    exact congrArg PV.bool (eqL_len (by assumption)).symm
  · have h4 := not_f h1
    have p5 := dt h4
    refine go tbv5ok 11 rfl rfl trivial ?_
    refine loop (ι := Nat) [0, 1, 6, 7, 8, 9, 10, 11, 12] [] (fun k => [(13, .int .i64 (k : Int))]) (fun k => []) (fun k => k ≤ a.length ∧ decide (a = b) = decide (a.drop k = b.drop k)) (fun k => a.length - k) 0 ⟨rfl, trivial⟩ trivial ?_ ?_
    · exact ⟨Nat.zero_le _, rfl⟩
    · rintro k hp6
      obtain ⟨hk1, hk2⟩ := hp6
      refine go tbv5ok 6 rfl rfl trivial ?_
      refine cnd rfl (fun h7 => ?_) (fun h7 => ?_)
      · have p8 := dt h7
        refine go tbv5ok 11 rfl rfl trivial ?_
        refine any [0, 1, 2, 3, 4, 5] 9 mixd rfl ?_
        refine gov tbv5ok [0, 1] 7 rfl (by kernel_rfl) rfl rfl trivial ?_
        obtain ⟨c9, hc10⟩ := getE (xs := a) (m := k) (by omega)
        have c9_w := Pair.pwf (w.1.2 c9 (List.mem_of_getElem? hc10))
        refine vq 2 (qidx tbv5ok k rfl rfl rfl hc10 rfl rfl rfl rfl) rfl (by kernel_rfl) rfl fun w11 => ?_
        refine gov tbv5ok [3, 4, 5] 3 rfl (by kernel_rfl) rfl rfl trivial ?_
        obtain ⟨c12, hc13⟩ := getE (xs := b) (m := k) (by omega)
        have c12_w := Pair.pwf (w.2.1.2 c12 (List.mem_of_getElem? hc13))
        refine vq 6 (qidx tbv5ok k rfl rfl rfl hc13 rfl rfl rfl rfl) rfl (by kernel_rfl) rfl fun w14 => ?_
        refine gov tbv5ok [7] 1 rfl (by kernel_rfl) rfl rfl trivial ?_
        refine vq 8 (sane rfl rfl eqg139 (veq139 c9 c12)) rfl (by kernel_rfl) rfl fun w15 => ?_
        refine vdone (by kernel_rfl) ?_
        refine go tbv5ok 1 rfl rfl trivial ?_
        refine cnd rfl (fun h16 => ?_) (fun h16 => ?_)
        · have h17 := not_t h16
          have p18 := df h17
          refine go tbv5ok 11 rfl rfl trivial ?_
          refine rt1 rfl rfl ?_
          refine ple ?_
          exact congrArg PV.bool (eqL_miss hk2 (dropE hc10) (dropE hc13) (by assumption)).symm
        · have h19 := not_f h16
          have p20 := dt h19
          refine go tbv5ok 7 rfl rfl ⟨(by omega), trivial⟩ ?_
          refine next (k + 1) rfl rfl ⟨rfl, trivial⟩ trivial ?_ ?_
          · omega
          · exact ⟨by omega, eqL_step hk2 (dropE hc10) (dropE hc13) (by assumption)⟩
      · have p21 := df h7
        refine go tbv5ok 11 rfl rfl trivial ?_
        refine rt1 rfl rfl ?_
        refine ple ?_
        exact congrArg PV.bool (eqL_end hk2 (by omega) (by omega)).symm
theorem head_Same (a : List Pair) (b : List Pair) : Fn Tryz.prog gb 139 [.sl Pair.pc a, .sl Pair.pc b] (.bool (decide (a = b))) := by
  refine fn_cw tbv5ok Tryz.func139 rfl Tryz.ntmps139 rfl cb139 rfl rfl fun w N H hG => ?_
  have a_l : a.length ≤ 140737488355328 := w.1.1
  have b_l : b.length ≤ 140737488355328 := w.2.1.1
  refine go tbv5ok 9 rfl rfl trivial ?_
  refine call (eq_Pair _ _) rfl rfl fun w1 => ?_
  refine go tbv5ok 4 rfl rfl trivial ?_
  refine rt1 rfl rfl ?_
  refine ple ?_
  rfl
theorem idxF_Pair (s : List Pair) (f : FuncId) (f_fst f_cap : List PV) (f_p : Pair → Bool) (f_h : ∀ x, Fn Tryz.prog gb f (argsP.apL f_fst ((.agg (Pair.pc x)) :: f_cap)) (.bool (f_p x))) : Fn Tryz.prog gb 157 [.sl Pair.pc s, .fn f f_fst f_cap] (.int .i64 (idxP f_p s)) := by
  refine fn_cw tbv5ok Tryz.func157 rfl Tryz.ntmps157 rfl cb157 rfl rfl fun w N H hG => ?_
  have s_l : s.length ≤ 140737488355328 := w.1.1
  refine go tbv5ok 14 rfl rfl trivial ?_
  refine loop (ι := Nat) [0, 1, 6, 7] [] (fun k => [(8, .int .i64 (k : Int))]) (fun k => []) (fun k => k ≤ s.length ∧ idxP f_p s = idxF f_p k (s.drop k)) (fun k => s.length - k) 0 ⟨rfl, trivial⟩ trivial ?_ ?_
  · exact ⟨Nat.zero_le _, rfl⟩
  · rintro k hp1
    obtain ⟨hk1, hk2⟩ := hp1
    refine go tbv5ok 6 rfl rfl trivial ?_
    refine cnd rfl (fun h2 => ?_) (fun h2 => ?_)
    · have p3 := dt h2
      obtain ⟨c4, hc5⟩ := getE (xs := s) (m := k) (by omega)
      have c4_w := Pair.pwf (w.1.2 c4 (List.mem_of_getElem? hc5))
      refine go tbv5ok 15 rfl rfl trivial ?_
      refine q1 (qidx tbv5ok k rfl rfl rfl hc5 rfl rfl rfl rfl) rfl fun w6 => ?_
      refine go tbv5ok 1 rfl rfl trivial ?_
      refine call (f_h c4) rfl rfl fun w7 => ?_
      refine go tbv5ok 2 rfl rfl trivial ?_
      refine cnd rfl (fun h8 => ?_) (fun h8 => ?_)
      · refine go tbv5ok 12 rfl rfl trivial ?_
        refine rt1 rfl rfl ?_
        refine ple ?_
        exact congrArg (PV.int .i64) (idx_hit hk2 (dropE hc5) (by assumption)).symm
      · refine go tbv5ok 7 rfl rfl ⟨(by omega), trivial⟩ ?_
        refine next (k + 1) rfl rfl ⟨rfl, trivial⟩ trivial ?_ ?_
        · omega
        · exact ⟨by omega, idx_miss hk2 (dropE hc5) (by assumption)⟩
    · have p9 := df h2
      refine go tbv5ok 11 rfl rfl trivial ?_
      refine rt1 rfl rfl ?_
      refine ple ?_
      exact congrArg (PV.int .i64) (idx_end hk2 (by omega)).symm
theorem head_Find1 (p : Pair) (key : Bs) : Fn Tryz.prog gb 158 [.agg (Pair.pc p), .el [.str key] 0] (.bool (decide (p.key = key))) := by
  refine fn_cw tbv5ok Tryz.func158 rfl Tryz.ntmps158 rfl cb158 rfl rfl fun w N H hG => ?_
  refine go tbv5ok 2 rfl rfl trivial ?_
  refine ef (boxA 0 rfl rfl rfl fun b1 => ?_)
  refine go tbv5ok 13 rfl rfl trivial ?_
  refine rt1 rfl rfl ?_
  refine ple ?_
  rfl
theorem head_Find (h : List Pair) (key : Bs) : Fn Tryz.prog gb 140 [.sl Pair.pc h, .str key] (.tup [.agg (Pair.pc ((findP h key).getD Pair.zero)), .bool ((findP h key).isSome)]) := by
  refine fn_cw tbv5ok Tryz.func140 rfl Tryz.ntmps140 rfl cb140 rfl rfl fun w N H hG => ?_
  have h_l : h.length ≤ 140737488355328 := w.1.1
  have key_l : key.length ≤ 9223372036854775807 := w.2.1
  refine go tbv5ok 2 rfl rfl trivial ?_
  refine ef (box1 0 rfl rfl rfl fun b1 => ?_)
  refine ef (alloc tbv5ok 1 rfl rfl rfl rfl fun b2 => ?_)
  refine go tbv5ok 6 rfl rfl trivial ?_
  refine freeze (i := 0) (t := 3) rfl rfl rfl rfl ?_
  refine go tbv5ok 1 rfl rfl trivial ?_
  refine call (idxF_Pair _ _ _ _ (fun z_3 : Pair => decide (z_3.key = key)) (fun z_3 => head_Find1 z_3 key)) rfl rfl fun w4 => ?_
  have hix4 := idxP_b (fun z_3 : Pair => decide (z_3.key = key)) h
  refine go tbv5ok 10 rfl rfl trivial ?_
  refine cnd rfl (fun h5 => ?_) (fun h5 => ?_)
  · have p6 := dt h5
    refine go tbv5ok 3 rfl rfl trivial ?_
    refine ef (storeA tbv5ok rfl rfl rfl rfl rfl rfl rfl rfl rfl rfl ?_)
    refine go tbv5ok 5 rfl rfl trivial ?_
    refine rt2 rfl rfl ?_
    refine ple ?_
    have e := idxP_neg (by assumption)
    have e2 : findP h key = none := by unfold findP; rw [← e]; congr 1; funext x; exact listBeq _ _
    rw [e2]; rfl
  · have p7 := df h5
    obtain ⟨c8, hc9⟩ := getE (xs := h) (m := (idxP (fun z_3 : Pair => decide (z_3.key = key)) h).toNat) (by omega)
    have c8_w := Pair.pwf (w.1.2 c8 (List.mem_of_getElem? hc9))
    refine go tbv5ok 6 rfl rfl trivial ?_
    refine q1 (qidx tbv5ok (idxP (fun z_3 : Pair => decide (z_3.key = key)) h).toNat rfl rfl (by omega) hc9 rfl rfl rfl rfl) rfl fun w10 => ?_
    refine go tbv5ok 1 rfl rfl trivial ?_
    refine ef (storeA tbv5ok rfl rfl rfl rfl rfl rfl rfl rfl rfl rfl ?_)
    refine go tbv5ok 4 rfl rfl trivial ?_
    refine rt2 rfl rfl ?_
    refine ple ?_
    have e := (idxP_get (by assumption) hc9).2
    have e2 : findP h key = some c8 := by unfold findP; rw [← e]; congr 1; funext x; exact listBeq _ _
    rw [e2]; rfl
theorem head_pair (p : Pair) (ahead : List Pair) : Fn Tryz.prog gb 128 [.agg (Pair.pc p), .sl Pair.pc ahead] (.int .i64 (pairErr p ahead)) := by
  refine fn_cw tbv5ok Tryz.func128 rfl Tryz.ntmps128 rfl cb128 rfl rfl fun w N H hG => ?_
  have ahead_l : ahead.length ≤ 140737488355328 := w.2.1.1
  refine go tbv5ok 2 rfl rfl trivial ?_
  refine ef (boxA 0 rfl rfl rfl fun b1 => ?_)
  refine go tbv5ok 8 rfl rfl trivial ?_
  refine call (words_Name _) rfl rfl fun w2 => ?_
  refine go tbv5ok 9 rfl rfl trivial ?_
  refine cnd rfl (fun h3 => ?_) (fun h3 => ?_)
  · have h4 := not_t h3
    have p5 := df h4
    refine go tbv5ok 8 rfl rfl trivial ?_
    refine rt1 rfl rfl ?_
    refine ple ?_
    refine congrArg (PV.int .i64) ?_
    simp only [Bool.or_eq_true, Bool.and_eq_true, Bool.not_eq_true', decide_eq_true_eq, Bool.or_eq_false_iff, Bool.and_eq_false_iff, Bool.not_eq_false', decide_eq_false_iff_not, beq_iff_eq, beq_eq_false_iff_ne] at *
    unfold pairErr
    (repeat' split) <;> first | rfl | (exfalso; omega) | (exfalso; simp_all; done) | (exfalso; simp_all; omega) | grind
  · have h6 := not_f h3
    have p7 := dt h6
    refine go tbv5ok 7 rfl rfl trivial ?_
    refine call (head_Find _ _) rfl rfl fun w8 => ?_
    refine go tbv5ok 3 rfl rfl trivial ?_
    refine ef (alloc tbv5ok 1 rfl rfl rfl rfl fun b9 => ?_)
    refine ef (storeA tbv5ok rfl rfl rfl rfl rfl rfl rfl rfl rfl rfl ?_)
    refine go tbv5ok 13 rfl rfl trivial ?_
    refine cnd rfl (fun h10 => ?_) (fun h10 => ?_)
    · have p11 := dt h10
      refine go tbv5ok 8 rfl rfl trivial ?_
      refine rt1 rfl rfl ?_
      refine ple ?_
      refine congrArg (PV.int .i64) ?_
      simp only [Bool.or_eq_true, Bool.and_eq_true, Bool.not_eq_true', decide_eq_true_eq, Bool.or_eq_false_iff, Bool.and_eq_false_iff, Bool.not_eq_false', decide_eq_false_iff_not, beq_iff_eq, beq_eq_false_iff_ne] at *
      unfold pairErr
      (repeat' split) <;> first | rfl | (exfalso; omega) | (exfalso; simp_all; done) | (exfalso; simp_all; omega) | grind
    · have p12 := df h10
      refine go tbv5ok 14 rfl rfl ⟨(fun hc => hc), (fun hc => hc), (fun hc => hc), rfl, rfl, trivial⟩ ?_
      refine cnd rfl (fun h13 => ?_) (fun h13 => ?_)
      · have h14 := bl h13
        have p15 := dt h14
        have h16 := br h13
        have p17 := dt h16
        refine go tbv5ok 8 rfl rfl trivial ?_
        refine rt1 rfl rfl ?_
        refine ple ?_
        refine congrArg (PV.int .i64) ?_
        simp only [Bool.or_eq_true, Bool.and_eq_true, Bool.not_eq_true', decide_eq_true_eq, Bool.or_eq_false_iff, Bool.and_eq_false_iff, Bool.not_eq_false', decide_eq_false_iff_not, beq_iff_eq, beq_eq_false_iff_ne] at *
        unfold pairErr
        (repeat' split) <;> first | rfl | (exfalso; omega) | (exfalso; simp_all; done) | (exfalso; simp_all; omega) | grind
      · refine go tbv5ok 18 rfl rfl ⟨(fun hc => hc), (fun hc => hc), rfl, rfl, (fun hc => hc), (fun hc => hc), rfl, rfl, trivial⟩ ?_
        refine cnd rfl (fun h18 => ?_) (fun h18 => ?_)
        · have h19 := bl h18
          have h20 := bl h19
          have p21 := dt h20
          have h22 := br h19
          have h23 := not_t h22
          have p24 := df h23
          have h25 := br h18
          have h26 := not_t h25
          have p27 := df h26
          refine go tbv5ok 8 rfl rfl trivial ?_
          refine rt1 rfl rfl ?_
          refine ple ?_
          refine congrArg (PV.int .i64) ?_
          simp only [Bool.or_eq_true, Bool.and_eq_true, Bool.not_eq_true', decide_eq_true_eq, Bool.or_eq_false_iff, Bool.and_eq_false_iff, Bool.not_eq_false', decide_eq_false_iff_not, beq_iff_eq, beq_eq_false_iff_ne] at *
          unfold pairErr
          (repeat' split) <;> first | rfl | (exfalso; omega) | (exfalso; simp_all; done) | (exfalso; simp_all; omega) | grind
        · refine go tbv5ok 14 rfl rfl ⟨(fun hc => hc), (fun hc => hc), rfl, rfl, trivial⟩ ?_
          refine cnd rfl (fun h28 => ?_) (fun h28 => ?_)
          · have h29 := bl h28
            have p30 := dt h29
            have h31 := br h28
            have h32 := not_t h31
            have p33 := df h32
            refine go tbv5ok 2 rfl rfl trivial ?_
            refine cndT rfl h28 ?_
            refine go tbv5ok 8 rfl rfl trivial ?_
            refine rt1 rfl rfl ?_
            refine ple ?_
            refine congrArg (PV.int .i64) ?_
            simp only [Bool.or_eq_true, Bool.and_eq_true, Bool.not_eq_true', decide_eq_true_eq, Bool.or_eq_false_iff, Bool.and_eq_false_iff, Bool.not_eq_false', decide_eq_false_iff_not, beq_iff_eq, beq_eq_false_iff_ne] at *
            unfold pairErr
            (repeat' split) <;> first | rfl | (exfalso; omega) | (exfalso; simp_all; done) | (exfalso; simp_all; omega) | grind
          · refine go tbv5ok 12 rfl rfl ⟨(fun hc => hc), (fun hc => hc), rfl, rfl, trivial⟩ ?_
            refine cnd rfl (fun h34 => ?_) (fun h34 => ?_)
            · have h35 := bl h34
              have h36 := not_t h35
              have p37 := df h36
              have h38 := br h34
              have h39 := not_t h38
              have p40 := df h39
              refine go tbv5ok 8 rfl rfl trivial ?_
              refine rt1 rfl rfl ?_
              refine ple ?_
              refine congrArg (PV.int .i64) ?_
              simp only [Bool.or_eq_true, Bool.and_eq_true, Bool.not_eq_true', decide_eq_true_eq, Bool.or_eq_false_iff, Bool.and_eq_false_iff, Bool.not_eq_false', decide_eq_false_iff_not, beq_iff_eq, beq_eq_false_iff_ne] at *
              unfold pairErr
              (repeat' split) <;> first | rfl | (exfalso; omega) | (exfalso; simp_all; done) | (exfalso; simp_all; omega) | grind
            · refine go tbv5ok 6 rfl rfl trivial ?_
              refine cnd rfl (fun h41 => ?_) (fun h41 => ?_)
              · refine go tbv5ok 8 rfl rfl trivial ?_
                refine rt1 rfl rfl ?_
                refine ple ?_
                refine congrArg (PV.int .i64) ?_
                simp only [Bool.or_eq_true, Bool.and_eq_true, Bool.not_eq_true', decide_eq_true_eq, Bool.or_eq_false_iff, Bool.and_eq_false_iff, Bool.not_eq_false', decide_eq_false_iff_not, beq_iff_eq, beq_eq_false_iff_ne] at *
                unfold pairErr
                (repeat' split) <;> first | rfl | (exfalso; omega) | (exfalso; simp_all; done) | (exfalso; simp_all; omega) | grind
              · refine go tbv5ok 9 rfl rfl trivial ?_
                refine rt1 rfl rfl ?_
                refine ple ?_
                refine congrArg (PV.int .i64) ?_
                simp only [Bool.or_eq_true, Bool.and_eq_true, Bool.not_eq_true', decide_eq_true_eq, Bool.or_eq_false_iff, Bool.and_eq_false_iff, Bool.not_eq_false', decide_eq_false_iff_not, beq_iff_eq, beq_eq_false_iff_ne] at *
                unfold pairErr
                (repeat' split) <;> first | rfl | (exfalso; omega) | (exfalso; simp_all; done) | (exfalso; simp_all; omega) | grind
theorem head_Check (h : List Pair) : Fn Tryz.prog gb 109 [.sl Pair.pc h] (.int .i64 (headE h)) := by
  refine fn_cw tbv5ok Tryz.func109 rfl Tryz.ntmps109 rfl cb109 rfl rfl fun w N H hG => ?_
  have h_l : h.length ≤ 140737488355328 := w.1.1
  refine go tbv5ok 13 rfl rfl trivial ?_
  refine cnd rfl (fun h1 => ?_) (fun h1 => ?_)
  · have p2 := dt h1
    refine go tbv5ok 7 rfl rfl trivial ?_
    refine rt1 rfl rfl ?_
    refine ple ?_
    simp [headE, *]
  · have p3 := df h1
    refine go tbv5ok 11 rfl rfl trivial ?_
    refine loop (ι := Nat) [0, 6, 7, 8, 9, 10] [] (fun k => [(11, .int .i64 (k : Int))]) (fun k => []) (fun k => k ≤ h.length ∧ headGo [] h = headGo (h.take k) (h.drop k)) (fun k => h.length - k) 0 ⟨rfl, trivial⟩ trivial ?_ ?_
    · exact ⟨Nat.zero_le _, rfl⟩
    · rintro k hp4
      obtain ⟨hk1, hk2⟩ := hp4
      refine go tbv5ok 6 rfl rfl trivial ?_
      refine cnd rfl (fun h5 => ?_) (fun h5 => ?_)
      · have p6 := dt h5
        obtain ⟨c7, hc8⟩ := getE (xs := h) (m := k) (by omega)
        have c7_w := Pair.pwf (w.1.2 c7 (List.mem_of_getElem? hc8))
        refine go tbv5ok 7 rfl rfl trivial ?_
        refine q1 (qidx tbv5ok k rfl rfl rfl hc8 rfl rfl rfl rfl) rfl fun w9 => ?_
        refine go tbv5ok 1 rfl rfl trivial ?_
        refine ef (alloc tbv5ok 0 rfl rfl rfl rfl fun b10 => ?_)
        refine go tbv5ok 1 rfl rfl trivial ?_
        refine ef (storeA tbv5ok rfl rfl rfl rfl rfl rfl rfl rfl rfl rfl ?_)
        refine go tbv5ok 3 rfl rfl trivial ?_
        refine any [1, 2, 3, 4, 5, 6] 6 mixd rfl ?_
        refine gov tbv5ok [0, 1, 2] 3 rfl (by kernel_rfl) rfl rfl trivial ?_
        refine vq 3 (lshi tbv5ok k rfl rfl rfl rfl rfl (fun _ => rfl) rfl (by omega)) rfl (by kernel_rfl) rfl fun w11 => ?_
        refine vcall 4 rfl (by kernel_rfl) (head_pair _ _) rfl rfl fun w12 => ?_
        have := pairErr_r c7 (h.take k)
        refine gov tbv5ok [5] 0 rfl (by kernel_rfl) rfl rfl trivial ?_
        refine vdone (by kernel_rfl) ?_
        refine go tbv5ok 7 rfl rfl trivial ?_
        refine cnd rfl (fun h13 => ?_) (fun h13 => ?_)
        · have h14 := not_t h13
          have p15 := df h14
          refine go tbv5ok 12 rfl rfl trivial ?_
          refine rt1 rfl rfl ?_
          refine ple ?_
          unfold headE
          rw [if_neg (by omega), hk2, dropE hc8]
          simp only [headGo]
          rw [if_pos (by omega)]
        · have h16 := not_f h13
          have p17 := dt h16
          refine go tbv5ok 7 rfl rfl ⟨(by omega), trivial⟩ ?_
          refine next (k + 1) rfl rfl ⟨rfl, trivial⟩ trivial ?_ ?_
          · omega
          · refine ⟨by omega, ?_⟩
            rw [hk2, dropE hc8, takeE hc8]
            simp only [headGo]
            rw [if_neg (by omega)]
      · have p18 := df h5
        refine go tbv5ok 11 rfl rfl trivial ?_
        refine rt1 rfl rfl ?_
        refine ple ?_
        unfold headE
        rw [if_neg (by omega), hk2, List.drop_of_length_le (by omega)]
        rfl
end Go.SW.V
set_option linter.unusedVariables false
set_option maxRecDepth 100000
set_option maxHeartbeats 4000000
namespace Go.SW.V
open Go.SW Go.Proofs
theorem cb120 : Callable Tryz.prog 120 := callable_of Tryz.func120 (by kernel_rfl) (by kernel_rfl)
theorem cb125 : Callable Tryz.prog 125 := callable_of Tryz.func125 (by kernel_rfl) (by kernel_rfl)
def tbv9 : Tb := [(4, ⟨.bool, 1, 1, [.bool false]⟩),
  (9, ⟨.str, 1, 16, [.str []]⟩),
  (47, ⟨.slc 139, 1, 24, [.sl Pair.pc []]⟩),
  (49, ⟨.agg [(0, 1), (1, 1), (2, 1), (3, 1), (4, 1), (5, 1)], 6, 88, [.str [], .str [], .bool false, .str [], .sl Pair.pc [], .bool false]⟩)]
theorem tbv9ok : tbB Tryz.prog tbv9 = true := by kernel_rfl
theorem deed_sameBind (a : BindR) (b : BindR) : Fn Tryz.prog gb 125 [.agg (BindR.pc a), .agg (BindR.pc b)] (.bool (decide (a = b))) := by
  refine fn_cw tbv9ok Tryz.func125 rfl Tryz.ntmps125 rfl cb125 rfl rfl fun w N H hG => ?_
  have a_want_l : a.want.length ≤ 140737488355328 := w.1.2.2.2.2.1.1
  have b_want_l : b.want.length ≤ 140737488355328 := w.2.1.2.2.2.2.1.1
  refine go tbv9ok 2 rfl rfl trivial ?_
  refine ef (boxA 0 rfl rfl rfl fun b1 => ?_)
  refine ef (boxA 1 rfl rfl rfl fun b2 => ?_)
  refine go tbv9ok 36 rfl rfl ⟨(fun hc => hc), (fun hc => hc), (fun hc => hc), (fun hc => hc), rfl, rfl, (fun hc => hc), (fun hc => hc), (fun hc => hc), (fun hc => hc), rfl, rfl, (fun hc => hc), (fun hc => hc), (fun hc => hc), (fun hc => hc), rfl, rfl, (fun hc => hc), (fun hc => hc), trivial⟩ ?_
  refine callg rfl (fun hc => (head_Same _ _)) rfl ⟨(fun hc => hc), (fun hc => hc), trivial⟩ rfl rfl fun _ => ?_
  refine go tbv9ok 12 rfl rfl ⟨rfl, rfl, (fun hc => hc), (fun hc => hc), (fun hc => hc), (fun hc => hc), rfl, rfl, trivial⟩ ?_
  refine rt1 rfl rfl ?_
  refine ple ?_
  exact congrArg PV.bool (by rw [Bool.eq_iff_iff]; first | (simp [BindR.eq_iff, and_assoc]; done) | (simp [BindR.eq_iff]; grind))
theorem deed_bit (yes : Bool) : Fn Tryz.prog gb 120 [.bool yes] (.int .u64 (bitN yes)) := by
  refine fn_cw tbv9ok Tryz.func120 rfl Tryz.ntmps120 rfl cb120 rfl rfl fun w N H hG => ?_
  refine go tbv9ok 11 rfl rfl trivial ?_
  refine cnd rfl (fun h1 => ?_) (fun h1 => ?_)
  · refine go tbv9ok 7 rfl rfl trivial ?_
    refine rt1 rfl rfl ?_
    refine ple ?_
    simp only [bitN, *]; rfl
  · refine go tbv9ok 8 rfl rfl trivial ?_
    refine rt1 rfl rfl ?_
    refine ple ?_
    simp only [bitN, *]; rfl
end Go.SW.V
set_option linter.unusedVariables false
set_option maxRecDepth 100000
set_option maxHeartbeats 4000000
namespace Go.SW.V
open Go.SW Go.Proofs
theorem cb176 : Callable Tryz.prog 176 := callable_of Tryz.func176 (by kernel_rfl) (by kernel_rfl)
def tbv6 : Tb := [(5, ⟨.int .u8, 1, 1, [.int .u8 0]⟩),
  (9, ⟨.str, 1, 16, [.str []]⟩),
  (22, ⟨.int .u64, 1, 8, [.int .u64 0]⟩),
  (182, ⟨.slc 5, 1, 24, [.sl u8c []]⟩)]
theorem tbv6ok : tbB Tryz.prog tbv6 = true := by kernel_rfl
theorem in_Num (i : In) (bytes : Int) : Fm Tryz.prog gb 176 [.int .i64 bytes] 234 (In.pc i) (.int .u64 (((inNum i bytes)).1)) (In.pc (((inNum i bytes)).2)) := by
  refine fm_cw tbv6ok Tryz.func176 rfl Tryz.ntmps176 rfl cb176 rfl rfl rfl rfl fun w wp b N H hG => ?_
  have bytes_r : -9223372036854775808 ≤ bytes ∧ bytes ≤ 9223372036854775807 := w.1
  have hb0 := inRaw_len i (min bytes 8)
  refine go tbv6ok 16 rfl rfl trivial ?_
  refine ef (ecallm (in_Raw _ (min bytes 8)) rfl rfl rfl rfl rfl fun w1 w1p => ?_)
  refine ef (ss2b tbv6ok rfl rfl rfl rfl rfl rfl rfl (by omega) rfl ?_)
  refine go tbv6ok 5 rfl rfl trivial ?_
  refine loop (ι := Nat) [0, 1, 4, 8, 9, 10, 11, 12, 13] [0] (fun k => [(5, .int .u64 (beN ((inRaw i (min bytes 8)).1.take k) : Int)), (14, .int .i64 (k : Int))]) (fun k => []) (fun k => k ≤ (inRaw i (min bytes 8)).1.length) (fun k => (inRaw i (min bytes 8)).1.length - k) 0 ⟨rfl, rfl, trivial⟩ trivial ?_ ?_
  · exact Nat.zero_le _
  · rintro k hp2
    have hb := inRaw_len i (min bytes 8)
    refine go tbv6ok 6 rfl rfl trivial ?_
    refine cnd rfl (fun h3 => ?_) (fun h3 => ?_)
    · have p4 := dt h3
      obtain ⟨c5, hc6⟩ := getE (xs := (inRaw i (min bytes 8)).1) (m := k) (by omega)
      refine go tbv6ok 6 rfl rfl trivial ?_
      refine q1 (qidx tbv6ok k rfl rfl rfl hc6 rfl rfl rfl rfl) rfl fun w7 => ?_
      have := wr_u64 ((BitVec.ofInt (IntKind.bits .u64) (IntKind.wrap .u64 ((beN ((inRaw i (min bytes 8)).1.take k) : Int) * 2 ^ (min (8 : Int).toNat (IntKind.bits .u64)))) ||| BitVec.ofInt (IntKind.bits .u64) ((c5).toNat : Int)).toNat)
      refine go tbv6ok 18 rfl rfl ⟨(by omega), (by omega), trivial⟩ ?_
      refine next (k + 1) rfl rfl ⟨(congrArg (PV.int .u64) (num_step hc6 (by omega))), rfl, trivial⟩ trivial ?_ ?_
      · omega
      · omega
    · have p8 := df h3
      refine go tbv6ok 12 rfl rfl trivial ?_
      refine rm1 rfl rfl ?_ rfl rfl rfl ?_
      · refine ple ?_
        simp only [inNum]
        rw [List.take_of_length_le (by omega)]
      · exact ples rfl
end Go.SW.V
set_option linter.unusedVariables false
set_option maxRecDepth 100000
set_option maxHeartbeats 4000000
namespace Go.SW.V
open Go.SW Go.Proofs
theorem cb163 : Callable Tryz.prog 163 := callable_of Tryz.func163 (by kernel_rfl) (by kernel_rfl)
theorem cb167 : Callable Tryz.prog 167 := callable_of Tryz.func167 (by kernel_rfl) (by kernel_rfl)
def tbv7 : Tb := [(9, ⟨.str, 1, 16, [.str []]⟩),
  (146, ⟨.slc 9, 1, 24, [.sl strc []]⟩)]
theorem tbv7ok : tbB Tryz.prog tbv7 = true := by kernel_rfl
theorem words_Matches (pattern : Bs) (key : Bs) (hp : pattern.length < 4294967281) (hk : key.length < 4294967281) : Fn Tryz.prog gb 167 [.str pattern, .str key] (.bool (mt (wordsOf pattern) (wordsOf key))) := by
  refine fn_cw tbv7ok Tryz.func167 rfl Tryz.ntmps167 rfl cb167 rfl rfl fun w N H hG => ?_
  have pattern_l : pattern.length ≤ 9223372036854775807 := w.1
  have key_l : key.length ≤ 9223372036854775807 := w.2.1
  refine go tbv7ok 8 rfl rfl trivial ?_
  refine call (words_Split _ (by omega)) rfl rfl fun w1 => ?_
  refine go tbv7ok 1 rfl rfl trivial ?_
  refine call (words_Split _ (by omega)) rfl rfl fun w2 => ?_
  refine go tbv7ok 18 rfl rfl trivial ?_
  refine loop (ι := Nat × Nat × Int × Nat) [0, 1, 5, 6, 11, 12, 13, 14] [] (fun ⟨i, j, b, f⟩ => [(7, .int .i64 (i : Int)), (8, .int .i64 (j : Int)), (9, .int .i64 b), (10, .int .i64 (f : Int))]) (fun ⟨i, j, b, f⟩ => []) (fun ⟨i, j, b, f⟩ => MI (wordsOf pattern) (wordsOf key) i j b f) (fun ⟨i, j, b, f⟩ => mmu (wordsOf pattern) (wordsOf key) j b f) ⟨0, 0, (-1), 0⟩ ⟨rfl, rfl, rfl, rfl, trivial⟩ trivial ?_ ?_
  · exact MI.start _ _
  · rintro ⟨i, j, b, f⟩ hp3
    have hmi := hp3
    have hwp := words_le pattern
    have hwk := words_le key
    have := hmi.hi
    have := hmi.hj
    have := hmi.hf
    have := hmi.hb
    have := hmi.hbi
    refine go tbv7ok 9 rfl rfl trivial ?_
    refine cnd rfl (fun h4 => ?_) (fun h4 => ?_)
    · have p5 := dt h4
      obtain ⟨c6, hc7⟩ := getJ (wordsOf pattern) i
      refine go tbv7ok 13 rfl rfl trivial ?_
      refine q1g [25, 26] rfl (fun hc => qidx tbv7ok i rfl rfl rfl (hc7 (by first | omega | (simp only [gOf, Bool.and_eq_true, Bool.or_eq_true, Bool.not_eq_true', decide_eq_true_eq, decide_eq_false_iff_not, Bool.not_eq_false', Bool.and_true, Bool.true_and, cond_true, cond_false] at *; omega))) rfl rfl rfl rfl) ⟨(fun hc => hc), (fun hc => hc), trivial⟩ rfl rfl rfl fun _ => ?_
      refine go tbv7ok 6 rfl rfl ⟨(fun hc => hc), (fun hc => hc), rfl, rfl, trivial⟩ ?_
      refine cnd rfl (fun h8 => ?_) (fun h8 => ?_)
      · have h9 := bl h8
        have p10 := dt h9
        have h11 := br h8
        have p12 := dt h11
        refine go tbv7ok 15 rfl rfl ⟨(by omega), trivial⟩ ?_
        obtain ⟨c13, hc14⟩ := getE (xs := wordsOf key) (m := j) (by omega)
        refine next ⟨(i + 1), j, ((i : Int) + 1), j⟩ rfl rfl ⟨(congrArg (PV.int .i64) (by omega)), rfl, rfl, rfl, trivial⟩ trivial ?_ ?_
        · exact mmu_hash hmi (by omega)
        · exact MI.hash hmi (by rw [(hc7 (by first | omega | (simp only [gOf, Bool.and_eq_true, Bool.or_eq_true, Bool.not_eq_true', decide_eq_true_eq, decide_eq_false_iff_not, Bool.not_eq_false', Bool.and_true, Bool.true_and, cond_true, cond_false] at *; omega)))]; simp [*])
      · refine go tbv7ok 1 rfl rfl trivial ?_
        refine any [0, 1, 2, 3, 4, 5] 23 mixd rfl ?_
        refine gov tbv7ok [0, 1, 2, 3, 4, 5, 6] 16 rfl (by kernel_rfl) rfl rfl trivial ?_
        refine vqg 7 [41, 42] rfl (by kernel_rfl) rfl rfl (fun hc => qidx tbv7ok i rfl rfl rfl (hc7 (by first | omega | (simp only [gOf, Bool.and_eq_true, Bool.or_eq_true, Bool.not_eq_true', decide_eq_true_eq, decide_eq_false_iff_not, Bool.not_eq_false', Bool.and_true, Bool.true_and, cond_true, cond_false] at *; omega))) rfl rfl rfl rfl) ⟨(fun hc => hc), (fun hc => hc), trivial⟩ rfl fun _ => ?_
        refine gov tbv7ok [8, 9, 10, 11, 12] 10 rfl (by kernel_rfl) rfl rfl ⟨(fun hc => hc), (fun hc => hc), (fun hc => hc), trivial⟩ ?_
        refine vqg 13 [47, 48] rfl (by kernel_rfl) rfl rfl (fun hc => qidx tbv7ok i rfl rfl rfl (hc7 (by first | omega | (simp only [gOf, Bool.and_eq_true, Bool.or_eq_true, Bool.not_eq_true', decide_eq_true_eq, decide_eq_false_iff_not, Bool.not_eq_false', Bool.and_true, Bool.true_and, cond_true, cond_false] at *; omega))) rfl rfl rfl rfl) ⟨(fun hc => hc), (fun hc => hc), trivial⟩ rfl fun _ => ?_
        refine gov tbv7ok [14, 15, 16] 6 rfl (by kernel_rfl) rfl rfl ⟨(fun hc => hc), trivial⟩ ?_
        obtain ⟨c15, hc16⟩ := getJ (wordsOf key) j
        refine vqg 17 [51, 52] rfl (by kernel_rfl) rfl rfl (fun hc => qidx tbv7ok j rfl rfl rfl (hc16 (by first | omega | (simp only [gOf, Bool.and_eq_true, Bool.or_eq_true, Bool.not_eq_true', decide_eq_true_eq, decide_eq_false_iff_not, Bool.not_eq_false', Bool.and_true, Bool.true_and, cond_true, cond_false] at *; omega))) rfl rfl rfl rfl) ⟨(fun hc => hc), (fun hc => hc), trivial⟩ rfl fun _ => ?_
        refine gov tbv7ok [18, 19, 20, 21, 22] 0 rfl (by kernel_rfl) rfl rfl ⟨(fun hc => hc), (fun hc => hc), (fun hc => hc), (fun hc => hc), (fun hc => (by rw [hc]; rfl)), (fun hc => rfl), rfl, rfl, trivial⟩ ?_
        refine vdone (by kernel_rfl) ?_
        refine go tbv7ok 1 rfl rfl trivial ?_
        refine cnd rfl (fun h17 => ?_) (fun h17 => ?_)
        · have h18 := bl h17
          have p19 := dt h18
          have h20 := br h17
          refine go tbv7ok 10 rfl rfl ⟨(by omega), (by omega), trivial⟩ ?_
          refine next ⟨(i + 1), (j + 1), b, f⟩ rfl rfl ⟨(congrArg (PV.int .i64) (by omega)), rfl, rfl, rfl, trivial⟩ trivial ?_ ?_
          · exact mmu_step (by omega)
          · first | exact MI.step hmi (hc7 (by first | omega | (simp only [gOf, Bool.and_eq_true, Bool.or_eq_true, Bool.not_eq_true', decide_eq_true_eq, decide_eq_false_iff_not, Bool.not_eq_false', Bool.and_true, Bool.true_and, cond_true, cond_false] at *; omega))) (hc16 (by first | omega | (simp only [gOf, Bool.and_eq_true, Bool.or_eq_true, Bool.not_eq_true', decide_eq_true_eq, decide_eq_false_iff_not, Bool.not_eq_false', Bool.and_true, Bool.true_and, cond_true, cond_false] at *; omega))) (by assumption) (by first | exact .inl (by assumption) | exact .inr (by assumption)) | exact MI.step hmi (hc7 (by first | omega | (simp only [gOf, Bool.and_eq_true, Bool.or_eq_true, Bool.not_eq_true', decide_eq_true_eq, decide_eq_false_iff_not, Bool.not_eq_false', Bool.and_true, Bool.true_and, cond_true, cond_false] at *; omega))) (hc16 (by first | omega | (simp only [gOf, Bool.and_eq_true, Bool.or_eq_true, Bool.not_eq_true', decide_eq_true_eq, decide_eq_false_iff_not, Bool.not_eq_false', Bool.and_true, Bool.true_and, cond_true, cond_false] at *; omega))) (by simp_all) (by first | (left; simp_all; done) | (right; simp_all; done) | grind)
        · refine go tbv7ok 7 rfl rfl trivial ?_
          refine cnd rfl (fun h21 => ?_) (fun h21 => ?_)
          · have p22 := dt h21
            refine go tbv7ok 15 rfl rfl ⟨(by omega), trivial⟩ ?_
            have hbad : ∀ w, (wordsOf pattern)[i]? = some w → w ≠ [35] ∧ w ≠ [42] ∧ w ≠ c15 := by
              intro w hw
              obtain ⟨hlt, _⟩ := List.getElem?_eq_some_iff.1 hw
              rw [(hc7 (by first | omega | (simp only [gOf, Bool.and_eq_true, Bool.or_eq_true, Bool.not_eq_true', decide_eq_true_eq, decide_eq_false_iff_not, Bool.not_eq_false', Bool.and_true, Bool.true_and, cond_true, cond_false] at *; omega)))] at hw; cases hw
              first | exact ⟨by assumption, by assumption, by assumption⟩ | (refine ⟨?_, ?_, ?_⟩ <;> intro q <;> simp_all)
            refine next ⟨b.toNat, (f + 1), b, (f + 1)⟩ rfl rfl ⟨(congrArg (PV.int .i64) (by omega)), rfl, rfl, rfl, trivial⟩ trivial ?_ ?_
            · exact mmu_back hmi.hf (by omega)
            · exact MI.back hmi (hc16 (by first | omega | (simp only [gOf, Bool.and_eq_true, Bool.or_eq_true, Bool.not_eq_true', decide_eq_true_eq, decide_eq_false_iff_not, Bool.not_eq_false', Bool.and_true, Bool.true_and, cond_true, cond_false] at *; omega))) (by omega) hbad
          · have p23 := df h21
            refine go tbv7ok 11 rfl rfl trivial ?_
            refine rt1 rfl rfl ?_
            refine ple ?_
            have hbad : ∀ w, (wordsOf pattern)[i]? = some w → w ≠ [35] ∧ w ≠ [42] ∧ w ≠ c15 := by
              intro w hw
              obtain ⟨hlt, _⟩ := List.getElem?_eq_some_iff.1 hw
              rw [(hc7 (by first | omega | (simp only [gOf, Bool.and_eq_true, Bool.or_eq_true, Bool.not_eq_true', decide_eq_true_eq, decide_eq_false_iff_not, Bool.not_eq_false', Bool.and_true, Bool.true_and, cond_true, cond_false] at *; omega)))] at hw; cases hw
              first | exact ⟨by assumption, by assumption, by assumption⟩ | (refine ⟨?_, ?_, ?_⟩ <;> intro q <;> simp_all)
            exact congrArg PV.bool (MI.none hmi (hc16 (by first | omega | (simp only [gOf, Bool.and_eq_true, Bool.or_eq_true, Bool.not_eq_true', decide_eq_true_eq, decide_eq_false_iff_not, Bool.not_eq_false', Bool.and_true, Bool.true_and, cond_true, cond_false] at *; omega))) (by omega) hbad).symm
    · have p24 := df h4
      refine go tbv7ok 7 rfl rfl trivial ?_
      refine loop (ι := Nat) [0, 1, 5, 6, 8, 9, 10, 11, 12, 13, 14, 15, 16, 17, 18] [] (fun q => [(7, .int .i64 (q : Int))]) (fun q => []) (fun q => q ≤ (wordsOf pattern).length ∧ mt (wordsOf pattern) (wordsOf key) = mt ((wordsOf pattern).drop q) []) (fun q => (wordsOf pattern).length - q) i ⟨rfl, trivial⟩ trivial ?_ ?_
      · exact ⟨by omega, hmi.fin (by omega)⟩
      · rintro q hp25
        obtain ⟨hq1, hq2⟩ := hp25
        obtain ⟨c26, hc27⟩ := getJ (wordsOf pattern) q
        refine go tbv7ok 10 rfl rfl trivial ?_
        refine q1g [74, 75] rfl (fun hc => qidx tbv7ok q rfl rfl rfl (hc27 (by first | omega | (simp only [gOf, Bool.and_eq_true, Bool.or_eq_true, Bool.not_eq_true', decide_eq_true_eq, decide_eq_false_iff_not, Bool.not_eq_false', Bool.and_true, Bool.true_and, cond_true, cond_false] at *; omega))) rfl rfl rfl rfl) ⟨(fun hc => hc), (fun hc => hc), trivial⟩ rfl rfl rfl fun _ => ?_
        refine go tbv7ok 5 rfl rfl ⟨(fun hc => hc), (fun hc => hc), rfl, rfl, trivial⟩ ?_
        refine cnd rfl (fun h28 => ?_) (fun h28 => ?_)
        · have h29 := bl h28
          have p30 := dt h29
          have h31 := br h28
          have p32 := dt h31
          refine go tbv7ok 9 rfl rfl ⟨(by omega), trivial⟩ ?_
          refine next (q + 1) rfl rfl ⟨rfl, trivial⟩ trivial ?_ ?_
          · omega
          · exact ⟨by omega, mt_end hq2 (by rw [(hc27 (by first | omega | (simp only [gOf, Bool.and_eq_true, Bool.or_eq_true, Bool.not_eq_true', decide_eq_true_eq, decide_eq_false_iff_not, Bool.not_eq_false', Bool.and_true, Bool.true_and, cond_true, cond_false] at *; omega)))]; simp [*])⟩
        · refine go tbv7ok 15 rfl rfl trivial ?_
          refine rt1 rfl rfl ?_
          refine ple ?_
          refine congrArg PV.bool ?_
          rw [hq2]
          by_cases hql : q < (wordsOf pattern).length
          · rw [mt_endN (hc27 (by first | omega | (simp only [gOf, Bool.and_eq_true, Bool.or_eq_true, Bool.not_eq_true', decide_eq_true_eq, decide_eq_false_iff_not, Bool.not_eq_false', Bool.and_true, Bool.true_and, cond_true, cond_false] at *; omega))) (by first | assumption | simp_all)]
            rw [decide_eq_false_iff_not]; omega
          · have hqe : q = (wordsOf pattern).length := by omega
            subst hqe
            rw [List.drop_length]; simp [mt]
theorem words_Pattern (s : Bs) : Fn Tryz.prog gb 163 [.str s] (.int .i64 (keyE patB s)) := by
  refine fn_cw tbv7ok Tryz.func163 rfl Tryz.ntmps163 rfl cb163 rfl rfl fun w N H hG => ?_
  have s_l : s.length ≤ 9223372036854775807 := w.1
  refine go tbv7ok 8 rfl rfl trivial ?_
  refine ef (bsl 0 strc [[42], [35]] tbv7ok rfl rfl rfl rfl rfl (fun _ => rfl) rfl (by decide) (by decide) rfl fun u1 => ?_)
  refine ef (calll 0 rfl (words_key _ _) rfl rfl rfl fun w2 => ?_)
  refine go tbv7ok 4 rfl rfl trivial ?_
  refine rt1 rfl rfl ?_
  refine ple ?_
  rfl
end Go.SW.V
set_option linter.unusedVariables false
set_option maxRecDepth 100000
set_option maxHeartbeats 4000000
namespace Go.SW.V
open Go.SW Go.Proofs
theorem cb119 : Callable Tryz.prog 119 := callable_of Tryz.func119 (by kernel_rfl) (by kernel_rfl)
def tbv8 : Tb := [(2, ⟨.int .i64, 1, 8, [.int .i64 0]⟩),
  (3, ⟨.int .i64, 1, 8, [.int .i64 0]⟩),
  (5, ⟨.int .u8, 1, 1, [.int .u8 0]⟩),
  (9, ⟨.str, 1, 16, [.str []]⟩),
  (22, ⟨.int .u64, 1, 8, [.int .u64 0]⟩),
  (47, ⟨.slc 139, 1, 24, [.sl Pair.pc []]⟩),
  (139, ⟨.agg [(0, 1), (1, 1), (2, 1), (3, 1)], 4, 48, [.str [], .int .u8 0, .int .i64 0, .str []]⟩),
  (170, ⟨.agg [(0, 1), (1, 1)], 2, 24, [.str [], .int .i64 0]⟩)]
theorem tbv8ok : tbB Tryz.prog tbv8 = true := by kernel_rfl
theorem head_Bytes (h : List Pair) : Fn Tryz.prog gb 119 [.sl Pair.pc h] (.tup [.str (headBytes h), .int .i64 (headE h)]) := by
  refine fn_cw tbv8ok Tryz.func119 rfl Tryz.ntmps119 rfl cb119 rfl rfl fun w N H hG => ?_
  have h_l : h.length ≤ 140737488355328 := w.1.1
  refine go tbv8ok 10 rfl rfl trivial ?_
  refine call (head_Check _) rfl rfl fun w1 => ?_
  refine go tbv8ok 9 rfl rfl trivial ?_
  refine cnd rfl (fun h2 => ?_) (fun h2 => ?_)
  · have h3 := not_t h2
    have p4 := df h3
    refine go tbv8ok 9 rfl rfl trivial ?_
    refine rt2 rfl rfl ?_
    refine ple ?_
    unfold headBytes
    rw [if_neg (by omega)]
  · have h5 := not_f h2
    have p6 := dt h5
    refine go tbv8ok 7 rfl rfl trivial ?_
    refine q1 (qconv tbv8ok rfl rfl rfl rfl (rg_u64 (by omega))) rfl fun w7 => ?_
    refine call (out_Num (⟨[], 0⟩ : Out) _ _ (by first | omega | (have := hrl (by assumption); omega) | (simp [outNum, outRaw, numB_len, numK] <;> omega) | (have := hrl (by assumption); simp [outNum, outRaw, numB_len, numK] <;> omega))) rfl rfl fun w8 => ?_
    have nl0 : (⟨[], 0⟩ : Out).s.length = 0 := rfl
    have := outNum_len (⟨[], 0⟩ : Out) (h.length : Int) 1
    refine ef (alloc tbv8ok 0 rfl rfl rfl rfl fun b9 => ?_)
    refine ef (storeA tbv8ok rfl rfl rfl rfl rfl rfl rfl rfl rfl rfl ?_)
    refine go tbv8ok 11 rfl rfl trivial ?_
    refine loop (ι := Nat × Out) [0, 2, 3, 4, 5, 8, 9, 10, 11, 13, 14, 15, 16, 17, 18, 19] [] (fun ⟨k, o⟩ => [(20, .int .i64 (k : Int))]) (fun ⟨k, o⟩ => [(0, .box b9 170 [.str o.s, .int .i64 o.err])]) (fun ⟨k, o⟩ => k ≤ h.length ∧ h.foldl pairOut (outNum ⟨[], 0⟩ h.length 1) = (h.drop k).foldl pairOut o ∧ o.s.length ≤ 8 + 110 * k) (fun ⟨k, o⟩ => h.length - k) ⟨0, (outNum (⟨[], 0⟩ : Out) (h.length : Int) 1)⟩ ⟨rfl, trivial⟩ ⟨rfl, trivial⟩ ?_ ?_
    · exact ⟨Nat.zero_le _, rfl, by simp at *; omega⟩
    · rintro ⟨k, o⟩ hp10
      obtain ⟨hk1, hk2, hk3⟩ := hp10
      have hok := headE_ok (h := h) (by assumption)
      refine go tbv8ok 6 rfl rfl trivial ?_
      refine cnd rfl (fun h11 => ?_) (fun h11 => ?_)
      · have p12 := dt h11
        obtain ⟨c13, hc14⟩ := getE (xs := h) (m := k) (by omega)
        have hpk := hok.2 c13 (List.mem_of_getElem? hc14)
        have c13_w := Pair.pwf (w.1.2 c13 (List.mem_of_getElem? hc14))
        refine go tbv8ok 6 rfl rfl trivial ?_
        refine q1 (qidx tbv8ok k rfl rfl rfl hc14 rfl rfl rfl rfl) rfl fun w15 => ?_
        refine go tbv8ok 1 rfl rfl trivial ?_
        refine ef (alloc tbv8ok 1 rfl rfl rfl rfl fun b16 => ?_)
        refine ef (storeA tbv8ok rfl rfl rfl rfl rfl rfl rfl rfl rfl rfl ?_)
        refine go tbv8ok 3 rfl rfl trivial ?_
        refine any [2, 3, 4, 5, 6, 7] 9 mixd rfl ?_
        refine gov tbv8ok [0, 1, 2] 6 rfl (by kernel_rfl) rfl rfl trivial ?_
        refine vcall 3 rfl (by kernel_rfl) (out_Text _ _ (by first | omega | (have := hrl (by assumption); omega) | (simp [outNum, outRaw, numB_len, numK] <;> omega) | (have := hrl (by assumption); simp [outNum, outRaw, numB_len, numK] <;> omega))) rfl rfl fun w17 => ?_
        have := outText_len o c13.key
        refine gov tbv8ok [4, 5, 6] 2 rfl (by kernel_rfl) rfl rfl trivial ?_
        refine vcall 7 rfl (by kernel_rfl) (out_Num _ _ _ (by first | omega | (have := hrl (by assumption); omega) | (simp [outNum, outRaw, numB_len, numK] <;> omega) | (have := hrl (by assumption); simp [outNum, outRaw, numB_len, numK] <;> omega))) rfl rfl fun w18 => ?_
        have := outNum_len (outText o c13.key) c13.kind 1
        refine vt 8 rfl (by kernel_rfl) (by kernel_rfl) (storeA tbv8ok rfl rfl rfl rfl rfl rfl rfl rfl rfl rfl ?_)
        refine vdone (by kernel_rfl) ?_
        refine go tbv8ok 14 rfl rfl trivial ?_
        refine cnd rfl (fun h19 => ?_) (fun h19 => ?_)
        · have p20 := dt h19
          refine go tbv8ok 5 rfl rfl trivial ?_
          refine call (out_Num _ _ _ (by first | omega | (have := hrl (by assumption); omega) | (simp [outNum, outRaw, numB_len, numK] <;> omega) | (have := hrl (by assumption); simp [outNum, outRaw, numB_len, numK] <;> omega))) rfl rfl fun w21 => ?_
          have := outNum_len (outNum (outText o c13.key) c13.kind 1) (IntKind.wrap .u64 c13.num) 8
          refine ef (storeA tbv8ok rfl rfl rfl rfl rfl rfl rfl rfl rfl rfl ?_)
          refine go tbv8ok 8 rfl rfl ⟨(by omega), trivial⟩ ?_
          refine next ⟨(k + 1), (outNum (outNum (outText o c13.key) c13.kind 1) (IntKind.wrap .u64 c13.num) 8)⟩ rfl rfl ⟨rfl, trivial⟩ ⟨rfl, trivial⟩ ?_ ?_
          · simp only []; omega
          · have e : (outNum (outNum (outText o c13.key) c13.kind 1) (IntKind.wrap .u64 c13.num) 8) = pairOut o c13 := by unfold pairOut; first | (rw [if_pos (by omega)]; done) | (rw [if_neg (by omega), if_pos (by omega)]; done) | (rw [if_neg (by omega), if_neg (by omega), if_pos (by omega)]; done) | (rw [if_neg (by omega), if_neg (by omega), if_neg (by omega)]; done)
            simp only []
            rw [e]
            have hlo := pairOut_len (o := o) (hok.2 c13 (List.mem_of_getElem? hc14))
            refine ⟨by omega, ?_, by omega⟩
            rw [hk2, dropE hc14, List.foldl_cons]
        · have p22 := df h19
          refine go tbv8ok 6 rfl rfl trivial ?_
          refine cnd rfl (fun h23 => ?_) (fun h23 => ?_)
          · have p24 := dt h23
            refine go tbv8ok 4 rfl rfl trivial ?_
            refine call (out_Text _ _ (by first | omega | (have := hrl (by assumption); omega) | (simp [outNum, outRaw, numB_len, numK] <;> omega) | (have := hrl (by assumption); simp [outNum, outRaw, numB_len, numK] <;> omega))) rfl rfl fun w25 => ?_
            have := outText_len (outNum (outText o c13.key) c13.kind 1) c13.text
            refine ef (storeA tbv8ok rfl rfl rfl rfl rfl rfl rfl rfl rfl rfl ?_)
            refine go tbv8ok 8 rfl rfl ⟨(by omega), trivial⟩ ?_
            refine next ⟨(k + 1), (outText (outNum (outText o c13.key) c13.kind 1) c13.text)⟩ rfl rfl ⟨rfl, trivial⟩ ⟨rfl, trivial⟩ ?_ ?_
            · simp only []; omega
            · have e : (outText (outNum (outText o c13.key) c13.kind 1) c13.text) = pairOut o c13 := by unfold pairOut; first | (rw [if_pos (by omega)]; done) | (rw [if_neg (by omega), if_pos (by omega)]; done) | (rw [if_neg (by omega), if_neg (by omega), if_pos (by omega)]; done) | (rw [if_neg (by omega), if_neg (by omega), if_neg (by omega)]; done)
              simp only []
              rw [e]
              have hlo := pairOut_len (o := o) (hok.2 c13 (List.mem_of_getElem? hc14))
              refine ⟨by omega, ?_, by omega⟩
              rw [hk2, dropE hc14, List.foldl_cons]
          · have p26 := df h23
            refine go tbv8ok 6 rfl rfl trivial ?_
            refine cnd rfl (fun h27 => ?_) (fun h27 => ?_)
            · have p28 := dt h27
              refine go tbv8ok 5 rfl rfl trivial ?_
              refine call (out_Num _ _ _ (by first | omega | (have := hrl (by assumption); omega) | (simp [outNum, outRaw, numB_len, numK] <;> omega) | (have := hrl (by assumption); simp [outNum, outRaw, numB_len, numK] <;> omega))) rfl rfl fun w29 => ?_
              have := outNum_len (outNum (outText o c13.key) c13.kind 1) (IntKind.wrap .u64 c13.num) 1
              refine ef (storeA tbv8ok rfl rfl rfl rfl rfl rfl rfl rfl rfl rfl ?_)
              refine go tbv8ok 8 rfl rfl ⟨(by omega), trivial⟩ ?_
              refine next ⟨(k + 1), (outNum (outNum (outText o c13.key) c13.kind 1) (IntKind.wrap .u64 c13.num) 1)⟩ rfl rfl ⟨rfl, trivial⟩ ⟨rfl, trivial⟩ ?_ ?_
              · simp only []; omega
              · have e : (outNum (outNum (outText o c13.key) c13.kind 1) (IntKind.wrap .u64 c13.num) 1) = pairOut o c13 := by unfold pairOut; first | (rw [if_pos (by omega)]; done) | (rw [if_neg (by omega), if_pos (by omega)]; done) | (rw [if_neg (by omega), if_neg (by omega), if_pos (by omega)]; done) | (rw [if_neg (by omega), if_neg (by omega), if_neg (by omega)]; done)
                simp only []
                rw [e]
                have hlo := pairOut_len (o := o) (hok.2 c13 (List.mem_of_getElem? hc14))
                refine ⟨by omega, ?_, by omega⟩
                rw [hk2, dropE hc14, List.foldl_cons]
            · have p30 := df h27
              refine go tbv8ok 8 rfl rfl ⟨(by omega), trivial⟩ ?_
              refine next ⟨(k + 1), (outNum (outText o c13.key) c13.kind 1)⟩ rfl rfl ⟨rfl, trivial⟩ ⟨rfl, trivial⟩ ?_ ?_
              · simp only []; omega
              · have e : (outNum (outText o c13.key) c13.kind 1) = pairOut o c13 := by unfold pairOut; first | (rw [if_pos (by omega)]; done) | (rw [if_neg (by omega), if_pos (by omega)]; done) | (rw [if_neg (by omega), if_neg (by omega), if_pos (by omega)]; done) | (rw [if_neg (by omega), if_neg (by omega), if_neg (by omega)]; done)
                simp only []
                rw [e]
                have hlo := pairOut_len (o := o) (hok.2 c13 (List.mem_of_getElem? hc14))
                refine ⟨by omega, ?_, by omega⟩
                rw [hk2, dropE hc14, List.foldl_cons]
      · have p31 := df h11
        refine go tbv8ok 8 rfl rfl trivial ?_
        refine call (out_String _) rfl rfl fun w32 => ?_
        refine go tbv8ok 5 rfl rfl trivial ?_
        refine rt2 rfl rfl ?_
        refine ple ?_
        unfold headBytes
        rw [if_pos (by assumption)]
        rw [List.drop_of_length_le (by omega), List.foldl_nil] at hk2
        rw [show headOut h = o from hk2]
        have e0 : headE h = 0 := by assumption
        rw [e0]
end Go.SW.V
set_option linter.unusedVariables false
set_option maxRecDepth 100000
set_option maxHeartbeats 4000000
namespace Go.SW.V
open Go.SW Go.Proofs
theorem ag22 : Ag Tryz.prog 22 false := fun w => by kernel_rfl
theorem cb103 : Callable Tryz.prog 103 := callable_of Tryz.func103 (by kernel_rfl) (by kernel_rfl)
theorem cb107 : Callable Tryz.prog 107 := callable_of Tryz.func107 (by kernel_rfl) (by kernel_rfl)
theorem cb108 : Callable Tryz.prog 108 := callable_of Tryz.func108 (by kernel_rfl) (by kernel_rfl)
theorem cb110 : Callable Tryz.prog 110 := callable_of Tryz.func110 (by kernel_rfl) (by kernel_rfl)
theorem cb117 : Callable Tryz.prog 117 := callable_of Tryz.func117 (by kernel_rfl) (by kernel_rfl)
theorem cb126 : Callable Tryz.prog 126 := callable_of Tryz.func126 (by kernel_rfl) (by kernel_rfl)
theorem cb29 : Callable Tryz.prog 29 := callable_of Tryz.func29 (by kernel_rfl) (by kernel_rfl)
theorem cb47 : Callable Tryz.prog 47 := callable_of Tryz.func47 (by kernel_rfl) (by kernel_rfl)
theorem eqg44 : Tryz.prog.eqGuardType Tryz.prog.depth 44 = false := by kernel_rfl
theorem eqg46 : Tryz.prog.eqGuardType Tryz.prog.depth 46 = false := by kernel_rfl
theorem veq44 (p q : ShopR) : ∀ (H : Hp) (vs us : List Value), Sims H (ShopR.pc p) vs → Sims H (ShopR.pc q) us → EqV Tryz.prog 10000 44 (.agg vs.toArray) (.agg us.toArray) (decide (p = q)) := by
  intro H vs us hv hu
  obtain ⟨_, _, rfl, v0, v_0⟩ := hv.inv_cons
  obtain ⟨_, _, rfl, v1, v_1⟩ := v_0.inv_cons
  obtain ⟨_, _, rfl, v2, v_2⟩ := v_1.inv_cons
  cases v_2.inv_nil
  cases v0.inv_str.1; cases v1.inv_int.1; cases v2.inv_str.1
  obtain ⟨_, _, rfl, u0, u_0⟩ := hu.inv_cons
  obtain ⟨_, _, rfl, u1, u_1⟩ := u_0.inv_cons
  obtain ⟨_, _, rfl, u2, u_2⟩ := u_1.inv_cons
  cases u_2.inv_nil
  cases u0.inv_str.1; cases u1.inv_int.1; cases u2.inv_str.1
  exact EqV.to (eqv_agg Tryz.underlying44 (by kernel_rfl) (eqf_1 (by decide) ag9 rfl rfl (eqv_str Tryz.underlying9) (eqf_1 (by decide) ag5 rfl rfl (eqv_int Tryz.underlying5) (eqf_1 (by decide) ag9 rfl rfl (eqv_str Tryz.underlying9) eqf_nil)))) (by obtain ⟨a0, a1, a2⟩ := p; obtain ⟨b0, b1, b2⟩ := q; rw [Bool.eq_iff_iff]; simp)
theorem veq46 (p q : QueueR) : ∀ (H : Hp) (vs us : List Value), Sims H (QueueR.pc p) vs → Sims H (QueueR.pc q) us → EqV Tryz.prog 10000 46 (.agg vs.toArray) (.agg us.toArray) (decide (p = q)) := by
  intro H vs us hv hu
  obtain ⟨_, _, rfl, v0, v_0⟩ := hv.inv_cons
  obtain ⟨_, _, rfl, v1, v_1⟩ := v_0.inv_cons
  obtain ⟨_, _, rfl, v2, v_2⟩ := v_1.inv_cons
  obtain ⟨_, _, rfl, v3, v_3⟩ := v_2.inv_cons
  cases v_3.inv_nil
  cases v0.inv_str.1; cases v1.inv_int.1; cases v2.inv_int.1; cases v3.inv_str.1
  obtain ⟨_, _, rfl, u0, u_0⟩ := hu.inv_cons
  obtain ⟨_, _, rfl, u1, u_1⟩ := u_0.inv_cons
  obtain ⟨_, _, rfl, u2, u_2⟩ := u_1.inv_cons
  obtain ⟨_, _, rfl, u3, u_3⟩ := u_2.inv_cons
  cases u_3.inv_nil
  cases u0.inv_str.1; cases u1.inv_int.1; cases u2.inv_int.1; cases u3.inv_str.1
  exact EqV.to (eqv_agg Tryz.underlying46 (by kernel_rfl) (eqf_1 (by decide) ag9 rfl rfl (eqv_str Tryz.underlying9) (eqf_1 (by decide) ag22 rfl rfl (eqv_int Tryz.underlying22) (eqf_1 (by decide) ag22 rfl rfl (eqv_int Tryz.underlying22) (eqf_1 (by decide) ag9 rfl rfl (eqv_str Tryz.underlying9) eqf_nil))))) (by obtain ⟨a0, a1, a2, a3⟩ := p; obtain ⟨b0, b1, b2, b3⟩ := q; rw [Bool.eq_iff_iff]; simp)
def tbv14 : Tb := [(5, ⟨.int .u8, 1, 1, [.int .u8 0]⟩),
  (9, ⟨.str, 1, 16, [.str []]⟩),
  (22, ⟨.int .u64, 1, 8, [.int .u64 0]⟩),
  (44, ⟨.agg [(0, 1), (1, 1), (2, 1)], 3, 40, [.str [], .int .u8 0, .str []]⟩),
  (46, ⟨.agg [(0, 1), (1, 1), (2, 1), (3, 1)], 4, 48, [.str [], .int .u64 0, .int .u64 0, .str []]⟩),
  (47, ⟨.slc 139, 1, 24, [.sl Pair.pc []]⟩),
  (49, ⟨.agg [(0, 1), (1, 1), (2, 1), (3, 1), (4, 1), (5, 1)], 6, 88, [.str [], .str [], .bool false, .str [], .sl Pair.pc [], .bool false]⟩),
  (51, ⟨.agg [(0, 1), (1, 1), (2, 1), (3, 1), (4, 1), (5, 1), (6, 1)], 7, 96, [.int .u64 0, .str [], .str [], .sl Pair.pc [], .str [], .int .u64 0, .int .u8 0]⟩),
  (53, ⟨.agg [(0, 1), (1, 1), (2, 3), (5, 4), (9, 6), (15, 1), (16, 1), (17, 1), (18, 1), (19, 1), (20, 1), (21, 7), (28, 1)], 29, 344, [.int .u8 0, .int .u64 0, .str [], .int .u8 0, .str [], .str [], .int .u64 0, .int .u64 0, .str [], .str [], .str [], .bool false, .str [], .sl Pair.pc [], .bool false, .str [], .int .u64 0, .int .u8 0, .int .u8 0, .int .u8 0, .int .u64 0, .int .u64 0, .str [], .str [], .sl Pair.pc [], .str [], .int .u64 0, .int .u8 0, .str []]⟩),
  (170, ⟨.agg [(0, 1), (1, 1)], 2, 24, [.str [], .int .i64 0]⟩)]
theorem tbv14ok : tbB Tryz.prog tbv14 = true := by kernel_rfl
theorem mail_Check (m : Mail) : Fn Tryz.prog gb 110 [.agg (Mail.pc m)] (.int .i64 (mailC m)) := by
  refine fn_cw tbv14ok Tryz.func110 rfl Tryz.ntmps110 rfl cb110 rfl rfl fun w N H hG => ?_
  have m_head_l : m.head.length ≤ 140737488355328 := w.1.2.2.2.1.1
  refine go tbv14ok 2 rfl rfl trivial ?_
  refine ef (boxA 0 rfl rfl rfl fun b1 => ?_)
  refine go tbv14ok 8 rfl rfl trivial ?_
  refine call (words_Name _) rfl rfl fun w2 => ?_
  refine go tbv14ok 9 rfl rfl trivial ?_
  refine cnd rfl (fun h3 => ?_) (fun h3 => ?_)
  · have h4 := not_t h3
    have p5 := df h4
    refine go tbv14ok 8 rfl rfl trivial ?_
    refine rt1 rfl rfl ?_
    refine ple ?_
    refine congrArg (PV.int .i64) ?_
    simp only [Bool.or_eq_true, Bool.and_eq_true, Bool.not_eq_true', decide_eq_true_eq, Bool.or_eq_false_iff, Bool.and_eq_false_iff, Bool.not_eq_false', decide_eq_false_iff_not, beq_iff_eq, beq_eq_false_iff_ne] at *
    unfold mailC
    (repeat' split) <;> first | rfl | (exfalso; omega) | (exfalso; simp_all; done) | (exfalso; simp_all; omega) | grind
  · have h6 := not_f h3
    have p7 := dt h6
    refine go tbv14ok 7 rfl rfl trivial ?_
    refine call (words_Key _) rfl rfl fun w8 => ?_
    refine go tbv14ok 9 rfl rfl trivial ?_
    refine cnd rfl (fun h9 => ?_) (fun h9 => ?_)
    · have h10 := not_t h9
      have p11 := df h10
      refine go tbv14ok 8 rfl rfl trivial ?_
      refine rt1 rfl rfl ?_
      refine ple ?_
      refine congrArg (PV.int .i64) ?_
      simp only [Bool.or_eq_true, Bool.and_eq_true, Bool.not_eq_true', decide_eq_true_eq, Bool.or_eq_false_iff, Bool.and_eq_false_iff, Bool.not_eq_false', decide_eq_false_iff_not, beq_iff_eq, beq_eq_false_iff_ne] at *
      unfold mailC
      (repeat' split) <;> first | rfl | (exfalso; omega) | (exfalso; simp_all; done) | (exfalso; simp_all; omega) | grind
    · have h12 := not_f h9
      have p13 := dt h12
      refine go tbv14ok 7 rfl rfl trivial ?_
      refine call (head_Check _) rfl rfl fun w14 => ?_
      refine go tbv14ok 11 rfl rfl trivial ?_
      refine cnd rfl (fun h15 => ?_) (fun h15 => ?_)
      · have h16 := not_t h15
        have p17 := df h16
        refine go tbv14ok 9 rfl rfl trivial ?_
        refine rt1 rfl rfl ?_
        refine ple ?_
        refine congrArg (PV.int .i64) ?_
        simp only [Bool.or_eq_true, Bool.and_eq_true, Bool.not_eq_true', decide_eq_true_eq, Bool.or_eq_false_iff, Bool.and_eq_false_iff, Bool.not_eq_false', decide_eq_false_iff_not, beq_iff_eq, beq_eq_false_iff_ne] at *
        unfold mailC
        (repeat' split) <;> first | rfl | (exfalso; omega) | (exfalso; simp_all; done) | (exfalso; simp_all; omega) | grind
      · have h18 := not_f h15
        have p19 := dt h18
        refine go tbv14ok 9 rfl rfl trivial ?_
        refine cnd rfl (fun h20 => ?_) (fun h20 => ?_)
        · have p21 := dt h20
          refine go tbv14ok 8 rfl rfl trivial ?_
          refine rt1 rfl rfl ?_
          refine ple ?_
          refine congrArg (PV.int .i64) ?_
          simp only [Bool.or_eq_true, Bool.and_eq_true, Bool.not_eq_true', decide_eq_true_eq, Bool.or_eq_false_iff, Bool.and_eq_false_iff, Bool.not_eq_false', decide_eq_false_iff_not, beq_iff_eq, beq_eq_false_iff_ne] at *
          unfold mailC
          (repeat' split) <;> first | rfl | (exfalso; omega) | (exfalso; simp_all; done) | (exfalso; simp_all; omega) | grind
        · have p22 := df h20
          refine go tbv14ok 8 rfl rfl trivial ?_
          refine cnd rfl (fun h23 => ?_) (fun h23 => ?_)
          · have p24 := dt h23
            refine go tbv14ok 8 rfl rfl trivial ?_
            refine rt1 rfl rfl ?_
            refine ple ?_
            refine congrArg (PV.int .i64) ?_
            simp only [Bool.or_eq_true, Bool.and_eq_true, Bool.not_eq_true', decide_eq_true_eq, Bool.or_eq_false_iff, Bool.and_eq_false_iff, Bool.not_eq_false', decide_eq_false_iff_not, beq_iff_eq, beq_eq_false_iff_ne] at *
            unfold mailC
            (repeat' split) <;> first | rfl | (exfalso; omega) | (exfalso; simp_all; done) | (exfalso; simp_all; omega) | grind
          · have p25 := df h23
            refine go tbv14ok 9 rfl rfl trivial ?_
            refine rt1 rfl rfl ?_
            refine ple ?_
            refine congrArg (PV.int .i64) ?_
            simp only [Bool.or_eq_true, Bool.and_eq_true, Bool.not_eq_true', decide_eq_true_eq, Bool.or_eq_false_iff, Bool.and_eq_false_iff, Bool.not_eq_false', decide_eq_false_iff_not, beq_iff_eq, beq_eq_false_iff_ne] at *
            unfold mailC
            (repeat' split) <;> first | rfl | (exfalso; omega) | (exfalso; simp_all; done) | (exfalso; simp_all; omega) | grind
theorem mail_Bytes (m : Mail) : Fn Tryz.prog gb 117 [.agg (Mail.pc m)] (.tup [.str (mailBytes m), .int .i64 (mailC m)]) := by
  refine fn_cw tbv14ok Tryz.func117 rfl Tryz.ntmps117 rfl cb117 rfl rfl fun w N H hG => ?_
  have m_w := Mail.pwf w.1
  have m_w' := m_w
  simp only [Mail.wf] at m_w'
  have m_head_k := Mail.kd3 w.1
  have m_head_k2 : m.head.length ≤ 140737488355328 := w.1.2.2.2.1.1
  refine go tbv14ok 2 rfl rfl trivial ?_
  refine ef (boxA 0 rfl rfl rfl fun b1 => ?_)
  refine go tbv14ok 8 rfl rfl trivial ?_
  refine call (mail_Check _) rfl rfl fun w2 => ?_
  have := mailC_r m
  have hmo2 := fun h => mailC_ok (m := m) h
  refine go tbv14ok 9 rfl rfl trivial ?_
  refine cnd rfl (fun h3 => ?_) (fun h3 => ?_)
  · have h4 := not_t h3
    have p5 := df h4
    refine go tbv14ok 9 rfl rfl trivial ?_
    refine rt2 rfl rfl ?_
    refine ple ?_
    simp [mailBytes, mailOut, *]
  · have h6 := not_f h3
    have p7 := dt h6
    refine go tbv14ok 6 rfl rfl trivial ?_
    refine call (head_Bytes _) rfl rfl fun w8 => ?_
    have := headBytes_len m.head
    refine go tbv14ok 8 rfl rfl trivial ?_
    refine any [1, 2, 3, 4, 5, 6] 17 mixd rfl ?_
    refine gov tbv14ok [0, 1, 2] 14 rfl (by kernel_rfl) rfl rfl trivial ?_
    refine vcall 3 rfl (by kernel_rfl) (out_Num (⟨[], 0⟩ : Out) _ _ (by first | omega | (have := hrl (by assumption); omega) | (simp [outNum, outRaw, numB_len, numK] <;> omega) | (have := hrl (by assumption); simp [outNum, outRaw, numB_len, numK] <;> omega))) rfl rfl fun w9 => ?_
    have nl0 : (⟨[], 0⟩ : Out).s.length = 0 := rfl
    have := outNum_len (⟨[], 0⟩ : Out) m.id 8
    refine gov tbv14ok [4, 5] 11 rfl (by kernel_rfl) rfl rfl trivial ?_
    refine vcall 6 rfl (by kernel_rfl) (out_Text _ _ (by first | omega | (have := hrl (by assumption); omega) | (simp [outNum, outRaw, numB_len, numK] <;> omega) | (have := hrl (by assumption); simp [outNum, outRaw, numB_len, numK] <;> omega))) rfl rfl fun w10 => ?_
    have := outText_len (outNum (⟨[], 0⟩ : Out) m.id 8) m.shop
    refine gov tbv14ok [7, 8] 8 rfl (by kernel_rfl) rfl rfl trivial ?_
    refine vcall 9 rfl (by kernel_rfl) (out_Text _ _ (by first | omega | (have := hrl (by assumption); omega) | (simp [outNum, outRaw, numB_len, numK] <;> omega) | (have := hrl (by assumption); simp [outNum, outRaw, numB_len, numK] <;> omega))) rfl rfl fun w11 => ?_
    have := outText_len (outText (outNum (⟨[], 0⟩ : Out) m.id 8) m.shop) m.key
    refine gov tbv14ok [10] 6 rfl (by kernel_rfl) rfl rfl trivial ?_
    refine vcall 11 rfl (by kernel_rfl) (out_Raw _ _ (by first | omega | (have := hrl (by assumption); omega) | (simp [outNum, outRaw, numB_len, numK] <;> omega) | (have := hrl (by assumption); simp [outNum, outRaw, numB_len, numK] <;> omega))) rfl rfl fun w12 => ?_
    have := outRaw_len (outText (outText (outNum (⟨[], 0⟩ : Out) m.id 8) m.shop) m.key) (headBytes m.head)
    refine gov tbv14ok [12, 13] 3 rfl (by kernel_rfl) rfl rfl trivial ?_
    refine vcall 14 rfl (by kernel_rfl) (out_Text _ _ (by first | omega | (have := hrl (by assumption); omega) | (simp [outNum, outRaw, numB_len, numK] <;> omega) | (have := hrl (by assumption); simp [outNum, outRaw, numB_len, numK] <;> omega))) rfl rfl fun w13 => ?_
    have := outText_len (outRaw (outText (outText (outNum (⟨[], 0⟩ : Out) m.id 8) m.shop) m.key) (headBytes m.head)) m.body
    refine ve 15 rfl (by kernel_rfl) rfl (alloc tbv14ok 1 rfl rfl rfl rfl fun b14 => ?_)
    refine vt 16 rfl (by kernel_rfl) (by kernel_rfl) (storeA tbv14ok rfl rfl rfl rfl rfl rfl rfl rfl rfl rfl ?_)
    refine vdone (by kernel_rfl) ?_
    refine go tbv14ok 2 rfl rfl trivial ?_
    refine any [2, 3, 4, 5, 6, 7] 11 mixd rfl ?_
    refine gov tbv14ok [0, 1, 2] 8 rfl (by kernel_rfl) rfl rfl trivial ?_
    refine vcall 3 rfl (by kernel_rfl) (out_Num _ _ _ (by first | omega | (have := hrl (by assumption); omega) | (simp [outNum, outRaw, numB_len, numK] <;> omega) | (have := hrl (by assumption); simp [outNum, outRaw, numB_len, numK] <;> omega))) rfl rfl fun w15 => ?_
    have := outNum_len (outText (outRaw (outText (outText (outNum (⟨[], 0⟩ : Out) m.id 8) m.shop) m.key) (headBytes m.head)) m.body) m.due 8
    refine gov tbv14ok [4, 5, 6] 4 rfl (by kernel_rfl) rfl rfl trivial ?_
    refine vcall 7 rfl (by kernel_rfl) (out_Num _ _ _ (by first | omega | (have := hrl (by assumption); omega) | (simp [outNum, outRaw, numB_len, numK] <;> omega) | (have := hrl (by assumption); simp [outNum, outRaw, numB_len, numK] <;> omega))) rfl rfl fun w16 => ?_
    have := outNum_len (outNum (outText (outRaw (outText (outText (outNum (⟨[], 0⟩ : Out) m.id 8) m.shop) m.key) (headBytes m.head)) m.body) m.due 8) m.hops 1
    refine vcall 8 rfl (by kernel_rfl) (out_String _) rfl rfl fun w17 => ?_
    refine gov tbv14ok [9, 10] 0 rfl (by kernel_rfl) rfl rfl trivial ?_
    refine vdone (by kernel_rfl) ?_
    refine go tbv14ok 2 rfl rfl trivial ?_
    refine rt2 rfl rfl ?_
    refine ple ?_
    simp [mailBytes, mailOut, *]
theorem draft_Life (tick : Int) (life : Int) : Fn Tryz.prog gb 29 [.int .u64 tick, .int .u64 life] (.int .u64 (lifeN tick life)) := by
  refine fn_cw tbv14ok Tryz.func29 rfl Tryz.ntmps29 rfl cb29 rfl rfl fun w N H hG => ?_
  have tick_r : 0 ≤ tick ∧ tick ≤ 18446744073709551615 := w.1
  have life_r : 0 ≤ life ∧ life ≤ 18446744073709551615 := w.2.1
  refine go tbv14ok 13 rfl rfl trivial ?_
  refine q1g [9] rfl (fun hc => qsub rfl rfl (rg_u64 (by omega))) ⟨(fun hc => hc), trivial⟩ rfl rfl rfl fun _ => ?_
  refine go tbv14ok 4 rfl rfl ⟨(fun hc => hc), (fun hc => hc), rfl, rfl, trivial⟩ ?_
  refine cnd rfl (fun h1 => ?_) (fun h1 => ?_)
  · refine go tbv14ok 7 rfl rfl trivial ?_
    refine rt1 rfl rfl ?_
    refine ple ?_
    refine congrArg (PV.int .u64) ?_
    simp only [Bool.or_eq_true, Bool.and_eq_true, Bool.not_eq_true', decide_eq_true_eq, Bool.or_eq_false_iff, Bool.and_eq_false_iff, Bool.not_eq_false', decide_eq_false_iff_not, beq_iff_eq, beq_eq_false_iff_ne] at *
    unfold lifeN
    (repeat' split) <;> first | rfl | (exfalso; omega) | (exfalso; simp_all; done) | (exfalso; simp_all; omega) | grind
  · have h2 := orl h1
    have p3 := df h2
    have h4 := orr h1
    have p5 := df h4
    refine go tbv14ok 6 rfl rfl trivial ?_
    refine q1 (qadd rfl rfl (rg_u64 (by omega))) rfl fun w6 => ?_
    refine go tbv14ok 4 rfl rfl trivial ?_
    refine rt1 rfl rfl ?_
    refine ple ?_
    refine congrArg (PV.int .u64) ?_
    simp only [Bool.or_eq_true, Bool.and_eq_true, Bool.not_eq_true', decide_eq_true_eq, Bool.or_eq_false_iff, Bool.and_eq_false_iff, Bool.not_eq_false', decide_eq_false_iff_not, beq_iff_eq, beq_eq_false_iff_ne] at *
    unfold lifeN
    (repeat' split) <;> first | rfl | (exfalso; omega) | (exfalso; simp_all; done) | (exfalso; simp_all; omega) | grind
theorem r26_Life (tick : Int) (life : Int) : Fn Tryz.prog gb 47 [.int .u64 tick, .int .u64 life] (.int .u64 (lifeN tick life)) := by
  refine fn_cw tbv14ok Tryz.func47 rfl Tryz.ntmps47 rfl cb47 rfl rfl fun w N H hG => ?_
  have tick_r : 0 ≤ tick ∧ tick ≤ 18446744073709551615 := w.1
  have life_r : 0 ≤ life ∧ life ≤ 18446744073709551615 := w.2.1
  have := wr_u64 (tick + life)
  refine go tbv14ok 25 rfl rfl ⟨(fun hc => hc), (fun hc => hc), rfl, rfl, trivial⟩ ?_
  refine cnd rfl (fun h1 => ?_) (fun h1 => ?_)
  · refine go tbv14ok 7 rfl rfl trivial ?_
    refine rt1 rfl rfl ?_
    refine ple ?_
    refine congrArg (PV.int .u64) ?_
    have hw := life_wrap tick_r.1 tick_r.2 life_r.1 life_r.2
    unfold lifeN
    (try simp only [Bool.or_eq_true, Bool.or_eq_false_iff, decide_eq_true_eq, decide_eq_false_iff_not] at *)
    split at hw <;> first | (rw [if_pos (by omega)]; done) | (rw [if_neg (by omega)]; omega)
  · have h2 := orl h1
    have p3 := df h2
    have h4 := orr h1
    have p5 := df h4
    refine go tbv14ok 9 rfl rfl trivial ?_
    refine rt1 rfl rfl ?_
    refine ple ?_
    refine congrArg (PV.int .u64) ?_
    have hw := life_wrap tick_r.1 tick_r.2 life_r.1 life_r.2
    unfold lifeN
    (try simp only [Bool.or_eq_true, Bool.or_eq_false_iff, decide_eq_true_eq, decide_eq_false_iff_not] at *)
    split at hw <;> first | (rw [if_pos (by omega)]; done) | (rw [if_neg (by omega)]; omega)
theorem deed_maybe (s : Bs) : Fn Tryz.prog gb 108 [.str s] (.int .i64 (maybeE s)) := by
  refine fn_cw tbv14ok Tryz.func108 rfl Tryz.ntmps108 rfl cb108 rfl rfl fun w N H hG => ?_
  have s_l : s.length ≤ 9223372036854775807 := w.1
  refine go tbv14ok 12 rfl rfl trivial ?_
  refine cnd rfl (fun h1 => ?_) (fun h1 => ?_)
  · have p2 := dt h1
    refine go tbv14ok 7 rfl rfl trivial ?_
    refine rt1 rfl rfl ?_
    refine ple ?_
    simp [maybeE, *]
  · have p3 := df h1
    refine go tbv14ok 5 rfl rfl trivial ?_
    refine call (words_Name _) rfl rfl fun w4 => ?_
    refine go tbv14ok 4 rfl rfl trivial ?_
    refine rt1 rfl rfl ?_
    refine ple ?_
    simp [maybeE, *]
theorem deed_bound (b : Bool) (e : Int) : Fn Tryz.prog gb 107 [.bool b, .int .i64 e] (.int .i64 (boundE b e)) := by
  refine fn_cw tbv14ok Tryz.func107 rfl Tryz.ntmps107 rfl cb107 rfl rfl fun w N H hG => ?_
  have e_r : -9223372036854775808 ≤ e ∧ e ≤ 9223372036854775807 := w.2.1
  refine go tbv14ok 11 rfl rfl trivial ?_
  refine cnd rfl (fun h1 => ?_) (fun h1 => ?_)
  · refine go tbv14ok 8 rfl rfl trivial ?_
    refine rt1 rfl rfl ?_
    refine ple ?_
    simp [boundE, *]
  · refine go tbv14ok 8 rfl rfl trivial ?_
    refine rt1 rfl rfl ?_
    refine ple ?_
    simp [boundE, *]
theorem mail_Same (a : Mail) (b : Mail) : Fn Tryz.prog gb 126 [.agg (Mail.pc a), .agg (Mail.pc b)] (.bool (decide (a = b))) := by
  refine fn_cw tbv14ok Tryz.func126 rfl Tryz.ntmps126 rfl cb126 rfl rfl fun w N H hG => ?_
  have a_head_l : a.head.length ≤ 140737488355328 := w.1.2.2.2.1.1
  have b_head_l : b.head.length ≤ 140737488355328 := w.2.1.2.2.2.1.1
  refine go tbv14ok 2 rfl rfl trivial ?_
  refine ef (boxA 0 rfl rfl rfl fun b1 => ?_)
  refine ef (boxA 1 rfl rfl rfl fun b2 => ?_)
  refine go tbv14ok 29 rfl rfl ⟨(fun hc => hc), (fun hc => hc), (fun hc => hc), (fun hc => hc), rfl, rfl, (fun hc => hc), (fun hc => hc), (fun hc => hc), (fun hc => hc), rfl, rfl, (fun hc => hc), (fun hc => hc), trivial⟩ ?_
  refine callg rfl (fun hc => (head_Same _ _)) rfl ⟨(fun hc => hc), (fun hc => hc), trivial⟩ rfl rfl fun _ => ?_
  refine go tbv14ok 26 rfl rfl ⟨rfl, rfl, (fun hc => hc), (fun hc => hc), (fun hc => hc), (fun hc => hc), rfl, rfl, (fun hc => hc), (fun hc => hc), (fun hc => hc), (fun hc => hc), rfl, rfl, (fun hc => hc), (fun hc => hc), (fun hc => hc), (fun hc => hc), rfl, rfl, trivial⟩ ?_
  refine rt1 rfl rfl ?_
  refine ple ?_
  exact congrArg PV.bool (by rw [Bool.eq_iff_iff]; first | (simp [Mail.eq_iff, and_assoc]; done) | (simp [Mail.eq_iff]; grind))
theorem deed_Same (a : DeedR) (b : DeedR) : Fn Tryz.prog gb 103 [.agg (DeedR.pc a), .agg (DeedR.pc b)] (.bool (decide (a = b))) := by
  refine fn_cw tbv14ok Tryz.func103 rfl Tryz.ntmps103 rfl cb103 rfl rfl fun w N H hG => ?_
  have a_bind_want_l : a.bind.want.length ≤ 140737488355328 := w.1.2.2.2.2.2.2.2.2.2.2.2.2.2.1.1
  have a_mail_head_l : a.mail.head.length ≤ 140737488355328 := w.1.2.2.2.2.2.2.2.2.2.2.2.2.2.2.2.2.2.2.2.2.2.2.2.2.1.1
  have b_bind_want_l : b.bind.want.length ≤ 140737488355328 := w.2.1.2.2.2.2.2.2.2.2.2.2.2.2.2.1.1
  have b_mail_head_l : b.mail.head.length ≤ 140737488355328 := w.2.1.2.2.2.2.2.2.2.2.2.2.2.2.2.2.2.2.2.2.2.2.2.2.2.2.1.1
  refine go tbv14ok 2 rfl rfl trivial ?_
  refine ef (boxA 0 rfl rfl rfl fun b1 => ?_)
  refine ef (boxA 1 rfl rfl rfl fun b2 => ?_)
  refine go tbv14ok 22 rfl rfl ⟨(fun hc => hc), (fun hc => hc), (fun hc => hc), (fun hc => hc), rfl, rfl, (fun hc => hc), (fun hc => hc), trivial⟩ ?_
  refine q1g [19, 21] rfl (fun hc => saeq rfl rfl eqg44 (veq44 a.shop b.shop)) ⟨(fun hc => hc), (fun hc => hc), trivial⟩ rfl rfl rfl fun _ => ?_
  refine go tbv14ok 6 rfl rfl ⟨rfl, rfl, (fun hc => hc), (fun hc => hc), trivial⟩ ?_
  refine q1g [26, 28] rfl (fun hc => saeq rfl rfl eqg46 (veq46 a.queue b.queue)) ⟨(fun hc => hc), (fun hc => hc), trivial⟩ rfl rfl rfl fun _ => ?_
  refine go tbv14ok 6 rfl rfl ⟨rfl, rfl, (fun hc => hc), (fun hc => hc), trivial⟩ ?_
  refine callg rfl (fun hc => (deed_sameBind _ _)) rfl ⟨(fun hc => hc), (fun hc => hc), trivial⟩ rfl rfl fun _ => ?_
  refine go tbv14ok 48 rfl rfl ⟨rfl, rfl, (fun hc => hc), (fun hc => hc), (fun hc => hc), (fun hc => hc), rfl, rfl, (fun hc => hc), (fun hc => hc), (fun hc => hc), (fun hc => hc), rfl, rfl, (fun hc => hc), (fun hc => hc), (fun hc => hc), (fun hc => hc), rfl, rfl, (fun hc => hc), (fun hc => hc), (fun hc => hc), (fun hc => hc), rfl, rfl, (fun hc => hc), (fun hc => hc), (fun hc => hc), (fun hc => hc), rfl, rfl, (fun hc => hc), (fun hc => hc), (fun hc => hc), (fun hc => hc), rfl, rfl, (fun hc => hc), (fun hc => hc), trivial⟩ ?_
  refine callg rfl (fun hc => (mail_Same _ _)) rfl ⟨(fun hc => hc), (fun hc => hc), trivial⟩ rfl rfl fun _ => ?_
  refine go tbv14ok 12 rfl rfl ⟨rfl, rfl, (fun hc => hc), (fun hc => hc), (fun hc => hc), (fun hc => hc), rfl, rfl, trivial⟩ ?_
  refine rt1 rfl rfl ?_
  refine ple ?_
  exact congrArg PV.bool (by rw [Bool.eq_iff_iff]; first | (simp [DeedR.eq_iff, and_assoc]; done) | (simp [DeedR.eq_iff]; grind))
end Go.SW.V
set_option linter.unusedVariables false
set_option maxRecDepth 100000
set_option maxHeartbeats 4000000
namespace Go.SW.V
open Go.SW Go.Proofs
theorem cb104 : Callable Tryz.prog 104 := callable_of Tryz.func104 (by kernel_rfl) (by kernel_rfl)
theorem cb105 : Callable Tryz.prog 105 := callable_of Tryz.func105 (by kernel_rfl) (by kernel_rfl)
theorem cb82 : Callable Tryz.prog 82 := callable_of Tryz.func82 (by kernel_rfl) (by kernel_rfl)
def tbv15 : Tb := [(5, ⟨.int .u8, 1, 1, [.int .u8 0]⟩),
  (9, ⟨.str, 1, 16, [.str []]⟩),
  (22, ⟨.int .u64, 1, 8, [.int .u64 0]⟩),
  (31, ⟨.int .i64, 1, 8, [.int .i64 0]⟩),
  (44, ⟨.agg [(0, 1), (1, 1), (2, 1)], 3, 40, [.str [], .int .u8 0, .str []]⟩),
  (46, ⟨.agg [(0, 1), (1, 1), (2, 1), (3, 1)], 4, 48, [.str [], .int .u64 0, .int .u64 0, .str []]⟩),
  (47, ⟨.slc 139, 1, 24, [.sl Pair.pc []]⟩),
  (49, ⟨.agg [(0, 1), (1, 1), (2, 1), (3, 1), (4, 1), (5, 1)], 6, 88, [.str [], .str [], .bool false, .str [], .sl Pair.pc [], .bool false]⟩),
  (51, ⟨.agg [(0, 1), (1, 1), (2, 1), (3, 1), (4, 1), (5, 1), (6, 1)], 7, 96, [.int .u64 0, .str [], .str [], .sl Pair.pc [], .str [], .int .u64 0, .int .u8 0]⟩),
  (53, ⟨.agg [(0, 1), (1, 1), (2, 3), (5, 4), (9, 6), (15, 1), (16, 1), (17, 1), (18, 1), (19, 1), (20, 1), (21, 7), (28, 1)], 29, 344, [.int .u8 0, .int .u64 0, .str [], .int .u8 0, .str [], .str [], .int .u64 0, .int .u64 0, .str [], .str [], .str [], .bool false, .str [], .sl Pair.pc [], .bool false, .str [], .int .u64 0, .int .u8 0, .int .u8 0, .int .u8 0, .int .u64 0, .int .u64 0, .str [], .str [], .sl Pair.pc [], .str [], .int .u64 0, .int .u8 0, .str []]⟩),
  (178, ⟨.slc 31, 1, 24, [.sl i64c []]⟩)]
theorem tbv15ok : tbB Tryz.prog tbv15 = true := by kernel_rfl
theorem deed_told (d : DeedR) : Fn Tryz.prog gb 104 [.agg (DeedR.pc d)] (.agg (DeedR.pc (toldD d))) := by
  refine fn_cw tbv15ok Tryz.func104 rfl Tryz.ntmps104 rfl cb104 rfl rfl fun w N H hG => ?_
  have d_bind_want_l : d.bind.want.length ≤ 140737488355328 := w.1.2.2.2.2.2.2.2.2.2.2.2.2.2.1.1
  have d_mail_head_l : d.mail.head.length ≤ 140737488355328 := w.1.2.2.2.2.2.2.2.2.2.2.2.2.2.2.2.2.2.2.2.2.2.2.2.2.1.1
  refine go tbv15ok 2 rfl rfl trivial ?_
  refine ef (boxA 0 rfl rfl rfl fun b1 => ?_)
  refine ef (alloc tbv15ok 1 rfl rfl rfl rfl fun b2 => ?_)
  refine go tbv15ok 9 rfl rfl trivial ?_
  refine ef (alloc tbv15ok 2 rfl rfl rfl rfl fun b3 => ?_)
  refine ef (storeA tbv15ok rfl rfl rfl rfl rfl rfl rfl rfl rfl rfl ?_)
  refine go tbv15ok 16 rfl rfl trivial ?_
  refine cnd rfl (fun h4 => ?_) (fun h4 => ?_)
  · have p5 := dt h4
    refine go tbv15ok 4 rfl rfl trivial ?_
    refine ef (storeA tbv15ok rfl rfl rfl rfl rfl rfl rfl rfl rfl rfl ?_)
    refine go tbv15ok 6 rfl rfl trivial ?_
    refine ef (storeA tbv15ok rfl rfl rfl rfl rfl rfl rfl rfl rfl rfl ?_)
    refine go tbv15ok 3 rfl rfl trivial ?_
    refine rt1 rfl rfl ?_
    refine ple ?_
    have e : toldD d = (⟨d.kind, d.tick, d.shop, (⟨[], 0, 0, []⟩ : QueueR), (⟨[], [], false, [], [], false⟩ : BindR), [], 0, 0, 0, 0, 0, (⟨0, [], [], [], [], 0, 0⟩ : Mail), []⟩ : DeedR) := by
      unfold toldD
      repeat (first | rw [if_pos (by omega)] | rw [if_neg (by omega)])
      rfl
    rw [e]; rfl
  · have p6 := df h4
    refine go tbv15ok 6 rfl rfl trivial ?_
    refine cnd rfl (fun h7 => ?_) (fun h7 => ?_)
    · have p8 := dt h7
      refine go tbv15ok 4 rfl rfl trivial ?_
      refine ef (storeA tbv15ok rfl rfl rfl rfl rfl rfl rfl rfl rfl rfl ?_)
      refine go tbv15ok 6 rfl rfl trivial ?_
      refine ef (storeA tbv15ok rfl rfl rfl rfl rfl rfl rfl rfl rfl rfl ?_)
      refine go tbv15ok 3 rfl rfl trivial ?_
      refine rt1 rfl rfl ?_
      refine ple ?_
      have e : toldD d = (⟨d.kind, d.tick, (⟨[], 0, []⟩ : ShopR), d.queue, (⟨[], [], false, [], [], false⟩ : BindR), [], 0, 0, 0, 0, 0, (⟨0, [], [], [], [], 0, 0⟩ : Mail), []⟩ : DeedR) := by
        unfold toldD
        repeat (first | rw [if_pos (by omega)] | rw [if_neg (by omega)])
        rfl
      rw [e]; rfl
    · have p9 := df h7
      refine go tbv15ok 7 rfl rfl trivial ?_
      refine cnd rfl (fun h10 => ?_) (fun h10 => ?_)
      · have p11 := dt h10
        refine go tbv15ok 2 rfl rfl trivial ?_
        refine cndT rfl h10 ?_
        refine go tbv15ok 4 rfl rfl trivial ?_
        refine ef (storeA tbv15ok rfl rfl rfl rfl rfl rfl rfl rfl rfl rfl ?_)
        refine go tbv15ok 6 rfl rfl trivial ?_
        refine ef (storeA tbv15ok rfl rfl rfl rfl rfl rfl rfl rfl rfl rfl ?_)
        refine go tbv15ok 3 rfl rfl trivial ?_
        refine rt1 rfl rfl ?_
        refine ple ?_
        have e : toldD d = (⟨d.kind, d.tick, (⟨[], 0, []⟩ : ShopR), (⟨[], 0, 0, []⟩ : QueueR), d.bind, [], 0, 0, 0, 0, 0, (⟨0, [], [], [], [], 0, 0⟩ : Mail), []⟩ : DeedR) := by
          unfold toldD
          repeat (first | rw [if_pos (by omega)] | rw [if_neg (by omega)])
          rfl
        rw [e]; rfl
      · have p12 := df h10
        refine go tbv15ok 5 rfl rfl trivial ?_
        refine cnd rfl (fun h13 => ?_) (fun h13 => ?_)
        · have p14 := dt h13
          refine go tbv15ok 4 rfl rfl trivial ?_
          refine ef (storeA tbv15ok rfl rfl rfl rfl rfl rfl rfl rfl rfl rfl ?_)
          refine go tbv15ok 6 rfl rfl trivial ?_
          refine ef (storeA tbv15ok rfl rfl rfl rfl rfl rfl rfl rfl rfl rfl ?_)
          refine go tbv15ok 3 rfl rfl trivial ?_
          refine rt1 rfl rfl ?_
          refine ple ?_
          have e : toldD d = (⟨d.kind, d.tick, (⟨[], 0, []⟩ : ShopR), (⟨[], 0, 0, []⟩ : QueueR), d.bind, [], 0, 0, 0, 0, 0, (⟨0, [], [], [], [], 0, 0⟩ : Mail), []⟩ : DeedR) := by
            unfold toldD
            repeat (first | rw [if_pos (by omega)] | rw [if_neg (by omega)])
            rfl
          rw [e]; rfl
        · have p15 := df h13
          refine go tbv15ok 6 rfl rfl trivial ?_
          refine cnd rfl (fun h16 => ?_) (fun h16 => ?_)
          · have p17 := dt h16
            refine go tbv15ok 4 rfl rfl trivial ?_
            refine ef (storeA tbv15ok rfl rfl rfl rfl rfl rfl rfl rfl rfl rfl ?_)
            refine go tbv15ok 6 rfl rfl trivial ?_
            refine ef (storeA tbv15ok rfl rfl rfl rfl rfl rfl rfl rfl rfl rfl ?_)
            refine go tbv15ok 3 rfl rfl trivial ?_
            refine rt1 rfl rfl ?_
            refine ple ?_
            have e : toldD d = (⟨d.kind, d.tick, (⟨[], 0, []⟩ : ShopR), (⟨[], 0, 0, []⟩ : QueueR), (⟨[], [], false, [], [], false⟩ : BindR), [], 0, 0, 0, 0, 0, d.mail, []⟩ : DeedR) := by
              unfold toldD
              repeat (first | rw [if_pos (by omega)] | rw [if_neg (by omega)])
              rfl
            rw [e]; rfl
          · have p18 := df h16
            refine go tbv15ok 7 rfl rfl trivial ?_
            refine cnd rfl (fun h19 => ?_) (fun h19 => ?_)
            · have p20 := dt h19
              refine go tbv15ok 2 rfl rfl trivial ?_
              refine cndT rfl h19 ?_
              refine go tbv15ok 4 rfl rfl trivial ?_
              refine ef (store1 tbv15ok rfl rfl rfl rfl rfl rfl rfl rfl rfl ?_)
              refine go tbv15ok 6 rfl rfl trivial ?_
              refine ef (storeA tbv15ok rfl rfl rfl rfl rfl rfl rfl rfl rfl rfl ?_)
              refine go tbv15ok 3 rfl rfl trivial ?_
              refine rt1 rfl rfl ?_
              refine ple ?_
              have e : toldD d = (⟨d.kind, d.tick, (⟨[], 0, []⟩ : ShopR), (⟨[], 0, 0, []⟩ : QueueR), (⟨[], [], false, [], [], false⟩ : BindR), d.name, 0, 0, 0, 0, 0, (⟨0, [], [], [], [], 0, 0⟩ : Mail), []⟩ : DeedR) := by
                unfold toldD
                repeat (first | rw [if_pos (by omega)] | rw [if_neg (by omega)])
                rfl
              rw [e]; rfl
            · have p21 := df h19
              refine go tbv15ok 6 rfl rfl trivial ?_
              refine cnd rfl (fun h22 => ?_) (fun h22 => ?_)
              · have p23 := dt h22
                refine go tbv15ok 2 rfl rfl trivial ?_
                refine cndT rfl h22 ?_
                refine go tbv15ok 4 rfl rfl trivial ?_
                refine ef (store1 tbv15ok rfl rfl rfl rfl rfl rfl rfl rfl rfl ?_)
                refine go tbv15ok 6 rfl rfl trivial ?_
                refine ef (storeA tbv15ok rfl rfl rfl rfl rfl rfl rfl rfl rfl rfl ?_)
                refine go tbv15ok 3 rfl rfl trivial ?_
                refine rt1 rfl rfl ?_
                refine ple ?_
                have e : toldD d = (⟨d.kind, d.tick, (⟨[], 0, []⟩ : ShopR), (⟨[], 0, 0, []⟩ : QueueR), (⟨[], [], false, [], [], false⟩ : BindR), d.name, 0, 0, 0, 0, 0, (⟨0, [], [], [], [], 0, 0⟩ : Mail), []⟩ : DeedR) := by
                  unfold toldD
                  repeat (first | rw [if_pos (by omega)] | rw [if_neg (by omega)])
                  rfl
                rw [e]; rfl
              · have p24 := df h22
                refine go tbv15ok 5 rfl rfl trivial ?_
                refine cnd rfl (fun h25 => ?_) (fun h25 => ?_)
                · have p26 := dt h25
                  refine go tbv15ok 4 rfl rfl trivial ?_
                  refine ef (store1 tbv15ok rfl rfl rfl rfl rfl rfl rfl rfl rfl ?_)
                  refine go tbv15ok 6 rfl rfl trivial ?_
                  refine ef (storeA tbv15ok rfl rfl rfl rfl rfl rfl rfl rfl rfl rfl ?_)
                  refine go tbv15ok 3 rfl rfl trivial ?_
                  refine rt1 rfl rfl ?_
                  refine ple ?_
                  have e : toldD d = (⟨d.kind, d.tick, (⟨[], 0, []⟩ : ShopR), (⟨[], 0, 0, []⟩ : QueueR), (⟨[], [], false, [], [], false⟩ : BindR), d.name, 0, 0, 0, 0, 0, (⟨0, [], [], [], [], 0, 0⟩ : Mail), []⟩ : DeedR) := by
                    unfold toldD
                    repeat (first | rw [if_pos (by omega)] | rw [if_neg (by omega)])
                    rfl
                  rw [e]; rfl
                · have p27 := df h25
                  refine go tbv15ok 6 rfl rfl trivial ?_
                  refine cnd rfl (fun h28 => ?_) (fun h28 => ?_)
                  · have p29 := dt h28
                    refine any [2, 3, 4, 5, 6, 7, 8] 12 mixd rfl ?_
                    refine gov tbv15ok [0, 1, 2, 3, 4, 5, 6] 5 rfl (by kernel_rfl) rfl rfl trivial ?_
                    refine ve 7 rfl (by kernel_rfl) rfl (store1 tbv15ok rfl rfl rfl rfl rfl rfl rfl rfl rfl ?_)
                    refine gov tbv15ok [8] 3 rfl (by kernel_rfl) rfl rfl trivial ?_
                    refine ve 9 rfl (by kernel_rfl) rfl (store1 tbv15ok rfl rfl rfl rfl rfl rfl rfl rfl rfl ?_)
                    refine gov tbv15ok [10] 1 rfl (by kernel_rfl) rfl rfl trivial ?_
                    refine vt 11 rfl (by kernel_rfl) (by kernel_rfl) (store1 tbv15ok rfl rfl rfl rfl rfl rfl rfl rfl rfl ?_)
                    refine vdone (by kernel_rfl) ?_
                    refine go tbv15ok 5 rfl rfl trivial ?_
                    refine ef (storeA tbv15ok rfl rfl rfl rfl rfl rfl rfl rfl rfl rfl ?_)
                    refine go tbv15ok 3 rfl rfl trivial ?_
                    refine rt1 rfl rfl ?_
                    refine ple ?_
                    have e : toldD d = (⟨d.kind, d.tick, (⟨[], 0, []⟩ : ShopR), (⟨[], 0, 0, []⟩ : QueueR), (⟨[], [], false, [], [], false⟩ : BindR), d.name, d.id, d.how, 0, 0, 0, (⟨0, [], [], [], [], 0, 0⟩ : Mail), []⟩ : DeedR) := by
                      unfold toldD
                      repeat (first | rw [if_pos (by omega)] | rw [if_neg (by omega)])
                      rfl
                    rw [e]; rfl
                  · have p30 := df h28
                    refine go tbv15ok 6 rfl rfl trivial ?_
                    refine cnd rfl (fun h31 => ?_) (fun h31 => ?_)
                    · have p32 := dt h31
                      refine any [2, 3, 4, 5, 6, 7, 8] 12 mixd rfl ?_
                      refine gov tbv15ok [0, 1, 2, 3, 4, 5, 6] 5 rfl (by kernel_rfl) rfl rfl trivial ?_
                      refine ve 7 rfl (by kernel_rfl) rfl (store1 tbv15ok rfl rfl rfl rfl rfl rfl rfl rfl rfl ?_)
                      refine gov tbv15ok [8] 3 rfl (by kernel_rfl) rfl rfl trivial ?_
                      refine ve 9 rfl (by kernel_rfl) rfl (store1 tbv15ok rfl rfl rfl rfl rfl rfl rfl rfl rfl ?_)
                      refine gov tbv15ok [10] 1 rfl (by kernel_rfl) rfl rfl trivial ?_
                      refine vt 11 rfl (by kernel_rfl) (by kernel_rfl) (storeA tbv15ok rfl rfl rfl rfl rfl rfl rfl rfl rfl rfl ?_)
                      refine vdone (by kernel_rfl) ?_
                      refine go tbv15ok 5 rfl rfl trivial ?_
                      refine ef (storeA tbv15ok rfl rfl rfl rfl rfl rfl rfl rfl rfl rfl ?_)
                      refine go tbv15ok 3 rfl rfl trivial ?_
                      refine rt1 rfl rfl ?_
                      refine ple ?_
                      have e : toldD d = (⟨d.kind, d.tick, (⟨[], 0, []⟩ : ShopR), (⟨[], 0, 0, []⟩ : QueueR), (⟨[], [], false, [], [], false⟩ : BindR), [], 0, 0, d.frm, 0, d.number, d.mail, []⟩ : DeedR) := by
                        unfold toldD
                        repeat (first | rw [if_pos (by omega)] | rw [if_neg (by omega)])
                        rfl
                      rw [e]; rfl
                    · have p33 := df h31
                      refine go tbv15ok 6 rfl rfl trivial ?_
                      refine cnd rfl (fun h34 => ?_) (fun h34 => ?_)
                      · have p35 := dt h34
                        refine any [2, 3, 4, 5, 6, 7, 8] 8 mixd rfl ?_
                        refine gov tbv15ok [0, 1, 2, 3, 4] 3 rfl (by kernel_rfl) rfl rfl trivial ?_
                        refine ve 5 rfl (by kernel_rfl) rfl (store1 tbv15ok rfl rfl rfl rfl rfl rfl rfl rfl rfl ?_)
                        refine gov tbv15ok [6] 1 rfl (by kernel_rfl) rfl rfl trivial ?_
                        refine vt 7 rfl (by kernel_rfl) (by kernel_rfl) (store1 tbv15ok rfl rfl rfl rfl rfl rfl rfl rfl rfl ?_)
                        refine vdone (by kernel_rfl) ?_
                        refine go tbv15ok 5 rfl rfl trivial ?_
                        refine ef (storeA tbv15ok rfl rfl rfl rfl rfl rfl rfl rfl rfl rfl ?_)
                        refine go tbv15ok 3 rfl rfl trivial ?_
                        refine rt1 rfl rfl ?_
                        refine ple ?_
                        have e : toldD d = (⟨d.kind, d.tick, (⟨[], 0, []⟩ : ShopR), (⟨[], 0, 0, []⟩ : QueueR), (⟨[], [], false, [], [], false⟩ : BindR), [], 0, 0, 0, d.code, 0, (⟨0, [], [], [], [], 0, 0⟩ : Mail), d.text⟩ : DeedR) := by
                          unfold toldD
                          repeat (first | rw [if_pos (by omega)] | rw [if_neg (by omega)])
                          rfl
                        rw [e]; rfl
                      · have p36 := df h34
                        refine go tbv15ok 6 rfl rfl trivial ?_
                        refine ef (storeA tbv15ok rfl rfl rfl rfl rfl rfl rfl rfl rfl rfl ?_)
                        refine go tbv15ok 3 rfl rfl trivial ?_
                        refine rt1 rfl rfl ?_
                        refine ple ?_
                        have e : toldD d = (⟨d.kind, d.tick, (⟨[], 0, []⟩ : ShopR), (⟨[], 0, 0, []⟩ : QueueR), (⟨[], [], false, [], [], false⟩ : BindR), [], 0, 0, 0, 0, 0, (⟨0, [], [], [], [], 0, 0⟩ : Mail), []⟩ : DeedR) := by
                          unfold toldD
                          repeat (first | rw [if_pos (by omega)] | rw [if_neg (by omega)])
                          rfl
                        rw [e]; rfl
theorem deed_first (l : List Int) : Fn Tryz.prog gb 105 [.sl i64c l] (.int .i64 (firstE l)) := by
  refine fn_cw tbv15ok Tryz.func105 rfl Tryz.ntmps105 rfl cb105 rfl rfl fun w N H hG => ?_
  have l_l : l.length ≤ 140737488355328 := w.1.1
  refine go tbv15ok 14 rfl rfl trivial ?_
  refine loop (ι := Nat) [0, 5, 6] [] (fun k => [(7, .int .i64 (k : Int))]) (fun k => []) (fun k => k ≤ l.length ∧ firstE l = firstE (l.drop k)) (fun k => l.length - k) 0 ⟨rfl, trivial⟩ trivial ?_ ?_
  · exact ⟨Nat.zero_le _, rfl⟩
  · rintro k hp1
    obtain ⟨hk1, hk2⟩ := hp1
    refine go tbv15ok 6 rfl rfl trivial ?_
    refine cnd rfl (fun h2 => ?_) (fun h2 => ?_)
    · have p3 := dt h2
      obtain ⟨c4, hc5⟩ := getE (xs := l) (m := k) (by omega)
      refine go tbv15ok 6 rfl rfl trivial ?_
      refine q1 (qidx tbv15ok k rfl rfl rfl hc5 rfl rfl rfl rfl) rfl fun w6 => ?_
      refine go tbv15ok 10 rfl rfl trivial ?_
      refine cnd rfl (fun h7 => ?_) (fun h7 => ?_)
      · have h8 := not_t h7
        have p9 := df h8
        refine go tbv15ok 12 rfl rfl trivial ?_
        refine rt1 rfl rfl ?_
        refine ple ?_
        refine congrArg (PV.int .i64) ?_
        rw [hk2, dropE hc5]
        unfold firstE
        rw [if_pos (by assumption)]
      · have h10 := not_f h7
        have p11 := dt h10
        refine go tbv15ok 7 rfl rfl ⟨(by omega), trivial⟩ ?_
        refine next (k + 1) rfl rfl ⟨rfl, trivial⟩ trivial ?_ ?_
        · omega
        · refine ⟨by omega, ?_⟩
          rw [hk2, dropE hc5]
          conv => lhs; unfold firstE
          rw [if_neg (by omega)]
    · have p12 := df h2
      refine go tbv15ok 11 rfl rfl trivial ?_
      refine rt1 rfl rfl ?_
      refine ple ?_
      refine congrArg (PV.int .i64) ?_
      rw [hk2, List.drop_of_length_le (by omega)]
      rfl
theorem deed_Check (d : DeedR) : Fn Tryz.prog gb 82 [.agg (DeedR.pc d)] (.int .i64 (deedE d)) := by
  refine fn_cw tbv15ok Tryz.func82 rfl Tryz.ntmps82 rfl cb82 rfl rfl fun w N H hG => ?_
  have d_bind_want_l : d.bind.want.length ≤ 140737488355328 := w.1.2.2.2.2.2.2.2.2.2.2.2.2.2.1.1
  have d_mail_head_l : d.mail.head.length ≤ 140737488355328 := w.1.2.2.2.2.2.2.2.2.2.2.2.2.2.2.2.2.2.2.2.2.2.2.2.2.1.1
  refine go tbv15ok 2 rfl rfl trivial ?_
  refine ef (boxA 0 rfl rfl rfl fun b1 => ?_)
  refine go tbv15ok 13 rfl rfl trivial ?_
  refine cnd rfl (fun h2 => ?_) (fun h2 => ?_)
  · have p3 := dt h2
    refine go tbv15ok 8 rfl rfl trivial ?_
    refine rt1 rfl rfl ?_
    refine ple ?_
    refine congrArg (PV.int .i64) ?_
    unfold deedE
    repeat (first | rw [if_pos (by omega)] | rw [if_neg (by omega)] | rw [if_pos (by assumption)] | rw [if_neg (not_not_intro (by assumption))])
    all_goals first | done | rfl
  · have p4 := df h2
    refine go tbv15ok 1 rfl rfl trivial ?_
    refine any [1, 2, 3, 4, 5, 6] 6 mixd rfl ?_
    refine gov tbv15ok [0, 1] 4 rfl (by kernel_rfl) rfl rfl trivial ?_
    refine ve 2 rfl (by kernel_rfl) rfl (ecall (deed_told _) rfl rfl fun w5 => ?_)
    refine vcall 3 rfl (by kernel_rfl) (deed_Same _ _) rfl rfl fun w6 => ?_
    refine gov tbv15ok [4, 5] 0 rfl (by kernel_rfl) rfl rfl trivial ?_
    refine vdone (by kernel_rfl) ?_
    refine go tbv15ok 1 rfl rfl trivial ?_
    refine cnd rfl (fun h7 => ?_) (fun h7 => ?_)
    · have h8 := not_t h7
      have p9 := df h8
      refine go tbv15ok 8 rfl rfl trivial ?_
      refine rt1 rfl rfl ?_
      refine ple ?_
      refine congrArg (PV.int .i64) ?_
      unfold deedE
      repeat (first | rw [if_pos (by omega)] | rw [if_neg (by omega)] | rw [if_pos (by assumption)] | rw [if_neg (not_not_intro (by assumption))])
      all_goals first | done | rfl
    · have h10 := not_f h7
      have p11 := dt h10
      refine go tbv15ok 17 rfl rfl trivial ?_
      refine cnd rfl (fun h12 => ?_) (fun h12 => ?_)
      · have p13 := dt h12
        refine go tbv15ok 1 rfl rfl trivial ?_
        refine any [1, 2, 3, 4, 5, 6] 16 mixd rfl ?_
        refine gov tbv15ok [0, 1, 2] 13 rfl (by kernel_rfl) rfl rfl trivial ?_
        refine vcall 3 rfl (by kernel_rfl) (words_Name _) rfl rfl fun w14 => ?_
        refine gov tbv15ok [4, 5, 6, 7] 8 rfl (by kernel_rfl) rfl rfl trivial ?_
        refine vcall 8 rfl (by kernel_rfl) (deed_bound _ _) rfl rfl fun w15 => ?_
        refine gov tbv15ok [9, 10, 11] 4 rfl (by kernel_rfl) rfl rfl trivial ?_
        refine vcall 12 rfl (by kernel_rfl) (deed_maybe _) rfl rfl fun w16 => ?_
        have := maybeE_r d.shop.to
        refine ve 13 rfl (by kernel_rfl) rfl (bsl 1 i64c [nameE d.shop.name, boundE (decide (4 < d.shop.sort)) 8, maybeE d.shop.to] tbv15ok rfl rfl rfl rfl rfl (fun _ => rfl) rfl (by decide) (by decide) rfl fun u17 => ?_)
        refine ve 14 rfl (by kernel_rfl) rfl (calll 1 rfl (deed_first _) rfl rfl rfl fun w18 => ?_)
        refine gov tbv15ok [15] 0 rfl (by kernel_rfl) rfl rfl trivial ?_
        refine vdone (by kernel_rfl) ?_
        refine go tbv15ok 4 rfl rfl trivial ?_
        refine rt1 rfl rfl ?_
        refine ple ?_
        refine congrArg (PV.int .i64) ?_
        unfold deedE
        repeat (first | rw [if_pos (by omega)] | rw [if_neg (by omega)] | rw [if_pos (by assumption)] | rw [if_neg (not_not_intro (by assumption))])
        all_goals first | done | rfl
      · have p19 := df h12
        refine go tbv15ok 6 rfl rfl trivial ?_
        refine cnd rfl (fun h20 => ?_) (fun h20 => ?_)
        · have p21 := dt h20
          refine go tbv15ok 1 rfl rfl trivial ?_
          refine any [1, 2, 3, 4, 5, 6] 11 mixd rfl ?_
          refine gov tbv15ok [0, 1, 2] 8 rfl (by kernel_rfl) rfl rfl trivial ?_
          refine vcall 3 rfl (by kernel_rfl) (words_Name _) rfl rfl fun w22 => ?_
          refine gov tbv15ok [4, 5, 6] 4 rfl (by kernel_rfl) rfl rfl trivial ?_
          refine vcall 7 rfl (by kernel_rfl) (deed_maybe _) rfl rfl fun w23 => ?_
          have := maybeE_r d.queue.dead
          refine ve 8 rfl (by kernel_rfl) rfl (bsl 1 i64c [nameE d.queue.name, maybeE d.queue.dead] tbv15ok rfl rfl rfl rfl rfl (fun _ => rfl) rfl (by decide) (by decide) rfl fun u24 => ?_)
          refine ve 9 rfl (by kernel_rfl) rfl (calll 1 rfl (deed_first _) rfl rfl rfl fun w25 => ?_)
          refine gov tbv15ok [10] 0 rfl (by kernel_rfl) rfl rfl trivial ?_
          refine vdone (by kernel_rfl) ?_
          refine go tbv15ok 4 rfl rfl trivial ?_
          refine rt1 rfl rfl ?_
          refine ple ?_
          refine congrArg (PV.int .i64) ?_
          unfold deedE
          repeat (first | rw [if_pos (by omega)] | rw [if_neg (by omega)] | rw [if_pos (by assumption)] | rw [if_neg (not_not_intro (by assumption))])
          all_goals first | done | rfl
        · have p26 := df h20
          refine go tbv15ok 7 rfl rfl trivial ?_
          refine cnd rfl (fun h27 => ?_) (fun h27 => ?_)
          · have p28 := dt h27
            refine go tbv15ok 2 rfl rfl trivial ?_
            refine cndT rfl h27 ?_
            refine go tbv15ok 4 rfl rfl trivial ?_
            refine ef (alloc tbv15ok 1 rfl rfl rfl rfl fun b29 => ?_)
            refine ef (storeA tbv15ok rfl rfl rfl rfl rfl rfl rfl rfl rfl rfl ?_)
            refine go tbv15ok 3 rfl rfl trivial ?_
            refine any [2, 3, 4, 5, 6, 7] 17 mixd rfl ?_
            refine gov tbv15ok [0, 1] 15 rfl (by kernel_rfl) rfl rfl trivial ?_
            refine vcall 2 rfl (by kernel_rfl) (words_Name _) rfl rfl fun w30 => ?_
            refine gov tbv15ok [3, 4] 12 rfl (by kernel_rfl) rfl rfl trivial ?_
            refine vcall 5 rfl (by kernel_rfl) (words_Name _) rfl rfl fun w31 => ?_
            refine gov tbv15ok [6, 7, 8, 9] 7 rfl (by kernel_rfl) rfl rfl trivial ?_
            refine vcall 10 rfl (by kernel_rfl) (deed_bound _ _) rfl rfl fun w32 => ?_
            refine gov tbv15ok [11, 12] 4 rfl (by kernel_rfl) rfl rfl trivial ?_
            refine vcall 13 rfl (by kernel_rfl) (head_Check _) rfl rfl fun w33 => ?_
            refine ve 14 rfl (by kernel_rfl) rfl (bsl 2 i64c [nameE d.bind.shop, nameE d.bind.to, boundE (decide (64 < (d.bind.key.length : Int))) 5, headE d.bind.want] tbv15ok rfl rfl rfl rfl rfl (fun _ => rfl) rfl (by decide) (by decide) rfl fun u34 => ?_)
            refine ve 15 rfl (by kernel_rfl) rfl (calll 2 rfl (deed_first _) rfl rfl rfl fun w35 => ?_)
            refine gov tbv15ok [16] 0 rfl (by kernel_rfl) rfl rfl trivial ?_
            refine vdone (by kernel_rfl) ?_
            refine go tbv15ok 4 rfl rfl trivial ?_
            refine rt1 rfl rfl ?_
            refine ple ?_
            refine congrArg (PV.int .i64) ?_
            unfold deedE
            repeat (first | rw [if_pos (by omega)] | rw [if_neg (by omega)] | rw [if_pos (by assumption)] | rw [if_neg (not_not_intro (by assumption))])
            all_goals first | done | rfl
          · have p36 := df h27
            refine go tbv15ok 5 rfl rfl trivial ?_
            refine cnd rfl (fun h37 => ?_) (fun h37 => ?_)
            · have p38 := dt h37
              refine go tbv15ok 4 rfl rfl trivial ?_
              refine ef (alloc tbv15ok 1 rfl rfl rfl rfl fun b39 => ?_)
              refine ef (storeA tbv15ok rfl rfl rfl rfl rfl rfl rfl rfl rfl rfl ?_)
              refine go tbv15ok 3 rfl rfl trivial ?_
              refine any [2, 3, 4, 5, 6, 7] 17 mixd rfl ?_
              refine gov tbv15ok [0, 1] 15 rfl (by kernel_rfl) rfl rfl trivial ?_
              refine vcall 2 rfl (by kernel_rfl) (words_Name _) rfl rfl fun w40 => ?_
              refine gov tbv15ok [3, 4] 12 rfl (by kernel_rfl) rfl rfl trivial ?_
              refine vcall 5 rfl (by kernel_rfl) (words_Name _) rfl rfl fun w41 => ?_
              refine gov tbv15ok [6, 7, 8, 9] 7 rfl (by kernel_rfl) rfl rfl trivial ?_
              refine vcall 10 rfl (by kernel_rfl) (deed_bound _ _) rfl rfl fun w42 => ?_
              refine gov tbv15ok [11, 12] 4 rfl (by kernel_rfl) rfl rfl trivial ?_
              refine vcall 13 rfl (by kernel_rfl) (head_Check _) rfl rfl fun w43 => ?_
              refine ve 14 rfl (by kernel_rfl) rfl (bsl 2 i64c [nameE d.bind.shop, nameE d.bind.to, boundE (decide (64 < (d.bind.key.length : Int))) 5, headE d.bind.want] tbv15ok rfl rfl rfl rfl rfl (fun _ => rfl) rfl (by decide) (by decide) rfl fun u44 => ?_)
              refine ve 15 rfl (by kernel_rfl) rfl (calll 2 rfl (deed_first _) rfl rfl rfl fun w45 => ?_)
              refine gov tbv15ok [16] 0 rfl (by kernel_rfl) rfl rfl trivial ?_
              refine vdone (by kernel_rfl) ?_
              refine go tbv15ok 4 rfl rfl trivial ?_
              refine rt1 rfl rfl ?_
              refine ple ?_
              refine congrArg (PV.int .i64) ?_
              unfold deedE
              repeat (first | rw [if_pos (by omega)] | rw [if_neg (by omega)] | rw [if_pos (by assumption)] | rw [if_neg (not_not_intro (by assumption))])
              all_goals first | done | rfl
            · have p46 := df h37
              refine go tbv15ok 7 rfl rfl trivial ?_
              refine cnd rfl (fun h47 => ?_) (fun h47 => ?_)
              · have p48 := dt h47
                refine go tbv15ok 2 rfl rfl trivial ?_
                refine cndT rfl h47 ?_
                refine go tbv15ok 4 rfl rfl trivial ?_
                refine call (mail_Check _) rfl rfl fun w49 => ?_
                have := mailC_r d.mail
                have hmo49 := fun h => mailC_ok (m := d.mail) h
                refine go tbv15ok 6 rfl rfl trivial ?_
                refine rt1 rfl rfl ?_
                refine ple ?_
                refine congrArg (PV.int .i64) ?_
                unfold deedE
                repeat (first | rw [if_pos (by omega)] | rw [if_neg (by omega)] | rw [if_pos (by assumption)] | rw [if_neg (not_not_intro (by assumption))])
                all_goals first | done | rfl
              · have p50 := df h47
                refine go tbv15ok 5 rfl rfl trivial ?_
                refine cnd rfl (fun h51 => ?_) (fun h51 => ?_)
                · have p52 := dt h51
                  refine go tbv15ok 4 rfl rfl trivial ?_
                  refine call (mail_Check _) rfl rfl fun w53 => ?_
                  have := mailC_r d.mail
                  have hmo53 := fun h => mailC_ok (m := d.mail) h
                  refine go tbv15ok 6 rfl rfl trivial ?_
                  refine rt1 rfl rfl ?_
                  refine ple ?_
                  refine congrArg (PV.int .i64) ?_
                  unfold deedE
                  repeat (first | rw [if_pos (by omega)] | rw [if_neg (by omega)] | rw [if_pos (by assumption)] | rw [if_neg (not_not_intro (by assumption))])
                  all_goals first | done | rfl
                · have p54 := df h51
                  refine go tbv15ok 7 rfl rfl trivial ?_
                  refine cnd rfl (fun h55 => ?_) (fun h55 => ?_)
                  · have p56 := dt h55
                    refine go tbv15ok 2 rfl rfl trivial ?_
                    refine cndT rfl h55 ?_
                    refine go tbv15ok 8 rfl rfl trivial ?_
                    refine rt1 rfl rfl ?_
                    refine ple ?_
                    refine congrArg (PV.int .i64) ?_
                    unfold deedE
                    repeat (first | rw [if_pos (by omega)] | rw [if_neg (by omega)] | rw [if_pos (by assumption)] | rw [if_neg (not_not_intro (by assumption))])
                    all_goals first | done | rfl
                  · have p57 := df h55
                    refine go tbv15ok 5 rfl rfl trivial ?_
                    refine cnd rfl (fun h58 => ?_) (fun h58 => ?_)
                    · have p59 := dt h58
                      refine go tbv15ok 8 rfl rfl trivial ?_
                      refine rt1 rfl rfl ?_
                      refine ple ?_
                      refine congrArg (PV.int .i64) ?_
                      unfold deedE
                      repeat (first | rw [if_pos (by omega)] | rw [if_neg (by omega)] | rw [if_pos (by assumption)] | rw [if_neg (not_not_intro (by assumption))])
                      all_goals first | done | rfl
                    · have p60 := df h58
                      refine go tbv15ok 6 rfl rfl trivial ?_
                      refine cnd rfl (fun h61 => ?_) (fun h61 => ?_)
                      · have p62 := dt h61
                        refine go tbv15ok 6 rfl rfl trivial ?_
                        refine call (deed_bound _ _) rfl rfl fun w63 => ?_
                        refine go tbv15ok 6 rfl rfl trivial ?_
                        refine rt1 rfl rfl ?_
                        refine ple ?_
                        refine congrArg (PV.int .i64) ?_
                        unfold deedE
                        repeat (first | rw [if_pos (by omega)] | rw [if_neg (by omega)] | rw [if_pos (by assumption)] | rw [if_neg (not_not_intro (by assumption))])
                        all_goals first | done | rfl
                      · have p64 := df h61
                        refine go tbv15ok 4 rfl rfl trivial ?_
                        refine any [1, 2, 3, 4, 5, 6] 10 mixd rfl ?_
                        refine gov tbv15ok [0, 1] 8 rfl (by kernel_rfl) rfl rfl trivial ?_
                        refine vcall 2 rfl (by kernel_rfl) (words_Name _) rfl rfl fun w65 => ?_
                        refine gov tbv15ok [3, 4, 5] 4 rfl (by kernel_rfl) rfl rfl trivial ?_
                        refine vcall 6 rfl (by kernel_rfl) (deed_bound _ _) rfl rfl fun w66 => ?_
                        refine ve 7 rfl (by kernel_rfl) rfl (bsl 1 i64c [nameE d.name, boundE (decide (2 < d.how)) 7] tbv15ok rfl rfl rfl rfl rfl (fun _ => rfl) rfl (by decide) (by decide) rfl fun u67 => ?_)
                        refine ve 8 rfl (by kernel_rfl) rfl (calll 1 rfl (deed_first _) rfl rfl rfl fun w68 => ?_)
                        refine gov tbv15ok [9] 0 rfl (by kernel_rfl) rfl rfl trivial ?_
                        refine vdone (by kernel_rfl) ?_
                        refine go tbv15ok 2 rfl rfl trivial ?_
                        refine rt1 rfl rfl ?_
                        refine ple ?_
                        refine congrArg (PV.int .i64) ?_
                        unfold deedE
                        repeat (first | rw [if_pos (by omega)] | rw [if_neg (by omega)] | rw [if_pos (by assumption)] | rw [if_neg (not_not_intro (by assumption))])
                        all_goals first | done | rfl
end Go.SW.V
set_option linter.unusedVariables false
set_option maxRecDepth 100000
set_option maxHeartbeats 4000000
namespace Go.SW.V
open Go.SW Go.Proofs
theorem cb100 : Callable Tryz.prog 100 := callable_of Tryz.func100 (by kernel_rfl) (by kernel_rfl)
def tbv16 : Tb := [(4, ⟨.bool, 1, 1, [.bool false]⟩),
  (5, ⟨.int .u8, 1, 1, [.int .u8 0]⟩),
  (9, ⟨.str, 1, 16, [.str []]⟩),
  (22, ⟨.int .u64, 1, 8, [.int .u64 0]⟩),
  (44, ⟨.agg [(0, 1), (1, 1), (2, 1)], 3, 40, [.str [], .int .u8 0, .str []]⟩),
  (46, ⟨.agg [(0, 1), (1, 1), (2, 1), (3, 1)], 4, 48, [.str [], .int .u64 0, .int .u64 0, .str []]⟩),
  (47, ⟨.slc 139, 1, 24, [.sl Pair.pc []]⟩),
  (49, ⟨.agg [(0, 1), (1, 1), (2, 1), (3, 1), (4, 1), (5, 1)], 6, 88, [.str [], .str [], .bool false, .str [], .sl Pair.pc [], .bool false]⟩),
  (51, ⟨.agg [(0, 1), (1, 1), (2, 1), (3, 1), (4, 1), (5, 1), (6, 1)], 7, 96, [.int .u64 0, .str [], .str [], .sl Pair.pc [], .str [], .int .u64 0, .int .u8 0]⟩),
  (53, ⟨.agg [(0, 1), (1, 1), (2, 3), (5, 4), (9, 6), (15, 1), (16, 1), (17, 1), (18, 1), (19, 1), (20, 1), (21, 7), (28, 1)], 29, 344, [.int .u8 0, .int .u64 0, .str [], .int .u8 0, .str [], .str [], .int .u64 0, .int .u64 0, .str [], .str [], .str [], .bool false, .str [], .sl Pair.pc [], .bool false, .str [], .int .u64 0, .int .u8 0, .int .u8 0, .int .u8 0, .int .u64 0, .int .u64 0, .str [], .str [], .sl Pair.pc [], .str [], .int .u64 0, .int .u8 0, .str []]⟩),
  (170, ⟨.agg [(0, 1), (1, 1)], 2, 24, [.str [], .int .i64 0]⟩)]
theorem tbv16ok : tbB Tryz.prog tbv16 = true := by kernel_rfl
theorem deed_Bytes (d : DeedR) : Fn Tryz.prog gb 100 [.agg (DeedR.pc d)] (.tup [.str (deedBytes d), .int .i64 (deedE d)]) := by
  refine fn_cw tbv16ok Tryz.func100 rfl Tryz.ntmps100 rfl cb100 rfl rfl fun w N H hG => ?_
  have d_w := DeedR.pwf w.1
  have d_w' := d_w
  simp only [DeedR.wf, ShopR.wf, QueueR.wf, BindR.wf, Mail.wf] at d_w'
  have d_bind_want_k := DeedR.kd13 w.1
  have d_bind_want_k2 : d.bind.want.length ≤ 140737488355328 := w.1.2.2.2.2.2.2.2.2.2.2.2.2.2.1.1
  have d_mail_head_k := DeedR.kd24 w.1
  have d_mail_head_k2 : d.mail.head.length ≤ 140737488355328 := w.1.2.2.2.2.2.2.2.2.2.2.2.2.2.2.2.2.2.2.2.2.2.2.2.2.1.1
  refine go tbv16ok 2 rfl rfl trivial ?_
  refine ef (boxA 0 rfl rfl rfl fun b1 => ?_)
  refine go tbv16ok 8 rfl rfl trivial ?_
  refine call (deed_Check _) rfl rfl fun w2 => ?_
  have := deedE_r d
  refine go tbv16ok 9 rfl rfl trivial ?_
  refine cnd rfl (fun h3 => ?_) (fun h3 => ?_)
  · have h4 := not_t h3
    have p5 := df h4
    refine go tbv16ok 9 rfl rfl trivial ?_
    refine rt2 rfl rfl ?_
    refine ple ?_
    have e : deedBytes d = [] := by
      unfold deedBytes
      first
        | (rw [if_neg (by assumption)]; done)
        | (rw [if_pos (by assumption)]; unfold deedOut; (repeat (first | rw [if_pos (by omega)] | rw [if_neg (by omega)] | rw [if_pos (by assumption)] | rw [if_neg (by assumption)] | rw [if_neg (not_not_intro (by assumption))])); first | done | rfl)
    rw [e]
    try (rw [show deedE d = 0 by assumption])
  · have h6 := not_f h3
    have p7 := dt h6
    have hdk := deedE_ok (d := d) (by omega) p7
    obtain ⟨dk1, dk2, dk3, dk4, dk5, dk6, dk7, dk8, dk9, dk10, dk11, dk12, dk13, dk14, dk15, dk16, dk17, dk18, dk19⟩ := hdk
    refine go tbv16ok 3 rfl rfl trivial ?_
    refine any [1, 2, 3, 4, 5, 6] 10 mixd rfl ?_
    refine gov tbv16ok [0, 1, 2, 3] 6 rfl (by kernel_rfl) rfl rfl trivial ?_
    refine vcall 4 rfl (by kernel_rfl) (out_Num (⟨[], 0⟩ : Out) _ _ (by first | omega | (have := hrl (by assumption); omega) | (simp [outNum, outRaw, numB_len, numK] <;> omega) | (have := hrl (by assumption); simp [outNum, outRaw, numB_len, numK] <;> omega))) rfl rfl fun w8 => ?_
    have nl0 : (⟨[], 0⟩ : Out).s.length = 0 := rfl
    have := outNum_len (⟨[], 0⟩ : Out) d.kind 1
    refine gov tbv16ok [5, 6] 3 rfl (by kernel_rfl) rfl rfl trivial ?_
    refine vcall 7 rfl (by kernel_rfl) (out_Num _ _ _ (by first | omega | (have := hrl (by assumption); omega) | (simp [outNum, outRaw, numB_len, numK] <;> omega) | (have := hrl (by assumption); simp [outNum, outRaw, numB_len, numK] <;> omega))) rfl rfl fun w9 => ?_
    have := outNum_len (outNum (⟨[], 0⟩ : Out) d.kind 1) d.tick 8
    refine ve 8 rfl (by kernel_rfl) rfl (alloc tbv16ok 1 rfl rfl rfl rfl fun b10 => ?_)
    refine vt 9 rfl (by kernel_rfl) (by kernel_rfl) (storeA tbv16ok rfl rfl rfl rfl rfl rfl rfl rfl rfl rfl ?_)
    refine vdone (by kernel_rfl) ?_
    refine go tbv16ok 5 rfl rfl trivial ?_
    refine call (mail_Bytes _) rfl rfl fun w11 => ?_
    have := mailBytes_len d.mail
    refine go tbv16ok 21 rfl rfl trivial ?_
    refine cnd rfl (fun h12 => ?_) (fun h12 => ?_)
    · have p13 := dt h12
      refine any [2, 3, 4, 5, 6, 7] 15 mixd rfl ?_
      refine gov tbv16ok [0, 1, 2, 3] 11 rfl (by kernel_rfl) rfl rfl trivial ?_
      refine vcall 4 rfl (by kernel_rfl) (out_Text _ _ (by first | omega | (have := hrl (by assumption); omega) | (simp [outNum, outRaw, numB_len, numK] <;> omega) | (have := hrl (by assumption); simp [outNum, outRaw, numB_len, numK] <;> omega))) rfl rfl fun w14 => ?_
      have := outText_len (outNum (outNum (⟨[], 0⟩ : Out) d.kind 1) d.tick 8) d.shop.name
      refine gov tbv16ok [5, 6, 7, 8] 6 rfl (by kernel_rfl) rfl rfl trivial ?_
      refine vcall 9 rfl (by kernel_rfl) (out_Num _ _ _ (by first | omega | (have := hrl (by assumption); omega) | (simp [outNum, outRaw, numB_len, numK] <;> omega) | (have := hrl (by assumption); simp [outNum, outRaw, numB_len, numK] <;> omega))) rfl rfl fun w15 => ?_
      have := outNum_len (outText (outNum (outNum (⟨[], 0⟩ : Out) d.kind 1) d.tick 8) d.shop.name) d.shop.sort 1
      refine gov tbv16ok [10, 11, 12] 2 rfl (by kernel_rfl) rfl rfl trivial ?_
      refine vcall 13 rfl (by kernel_rfl) (out_Text _ _ (by first | omega | (have := hrl (by assumption); omega) | (simp [outNum, outRaw, numB_len, numK] <;> omega) | (have := hrl (by assumption); simp [outNum, outRaw, numB_len, numK] <;> omega))) rfl rfl fun w16 => ?_
      have := outText_len (outNum (outText (outNum (outNum (⟨[], 0⟩ : Out) d.kind 1) d.tick 8) d.shop.name) d.shop.sort 1) d.shop.to
      refine vt 14 rfl (by kernel_rfl) (by kernel_rfl) (storeA tbv16ok rfl rfl rfl rfl rfl rfl rfl rfl rfl rfl ?_)
      refine vdone (by kernel_rfl) ?_
      refine go tbv16ok 5 rfl rfl trivial ?_
      refine call (out_String _) rfl rfl fun w17 => ?_
      refine go tbv16ok 5 rfl rfl trivial ?_
      refine rt2 rfl rfl ?_
      refine ple ?_
      have e : deedBytes d = (outText (outNum (outText (outNum (outNum (⟨[], 0⟩ : Out) d.kind 1) d.tick 8) d.shop.name) d.shop.sort 1) d.shop.to).s := by
        unfold deedBytes
        first
          | (rw [if_neg (by assumption)]; done)
          | (rw [if_pos (by assumption)]; unfold deedOut; (repeat (first | rw [if_pos (by omega)] | rw [if_neg (by omega)] | rw [if_pos (by assumption)] | rw [if_neg (by assumption)] | rw [if_neg (not_not_intro (by assumption))])); first | done | rfl)
      rw [e]
      try (rw [show deedE d = 0 by assumption])
    · have p18 := df h12
      refine go tbv16ok 6 rfl rfl trivial ?_
      refine cnd rfl (fun h19 => ?_) (fun h19 => ?_)
      · have p20 := dt h19
        refine any [2, 3, 4, 5, 6, 7] 18 mixd rfl ?_
        refine gov tbv16ok [0, 1, 2, 3] 14 rfl (by kernel_rfl) rfl rfl trivial ?_
        refine vcall 4 rfl (by kernel_rfl) (out_Text _ _ (by first | omega | (have := hrl (by assumption); omega) | (simp [outNum, outRaw, numB_len, numK] <;> omega) | (have := hrl (by assumption); simp [outNum, outRaw, numB_len, numK] <;> omega))) rfl rfl fun w21 => ?_
        have := outText_len (outNum (outNum (⟨[], 0⟩ : Out) d.kind 1) d.tick 8) d.queue.name
        refine gov tbv16ok [5, 6, 7] 10 rfl (by kernel_rfl) rfl rfl trivial ?_
        refine vcall 8 rfl (by kernel_rfl) (out_Num _ _ _ (by first | omega | (have := hrl (by assumption); omega) | (simp [outNum, outRaw, numB_len, numK] <;> omega) | (have := hrl (by assumption); simp [outNum, outRaw, numB_len, numK] <;> omega))) rfl rfl fun w22 => ?_
        have := outNum_len (outText (outNum (outNum (⟨[], 0⟩ : Out) d.kind 1) d.tick 8) d.queue.name) d.queue.most 8
        refine gov tbv16ok [9, 10, 11] 6 rfl (by kernel_rfl) rfl rfl trivial ?_
        refine vcall 12 rfl (by kernel_rfl) (out_Num _ _ _ (by first | omega | (have := hrl (by assumption); omega) | (simp [outNum, outRaw, numB_len, numK] <;> omega) | (have := hrl (by assumption); simp [outNum, outRaw, numB_len, numK] <;> omega))) rfl rfl fun w23 => ?_
        have := outNum_len (outNum (outText (outNum (outNum (⟨[], 0⟩ : Out) d.kind 1) d.tick 8) d.queue.name) d.queue.most 8) d.queue.life 8
        refine gov tbv16ok [13, 14, 15] 2 rfl (by kernel_rfl) rfl rfl trivial ?_
        refine vcall 16 rfl (by kernel_rfl) (out_Text _ _ (by first | omega | (have := hrl (by assumption); omega) | (simp [outNum, outRaw, numB_len, numK] <;> omega) | (have := hrl (by assumption); simp [outNum, outRaw, numB_len, numK] <;> omega))) rfl rfl fun w24 => ?_
        have := outText_len (outNum (outNum (outText (outNum (outNum (⟨[], 0⟩ : Out) d.kind 1) d.tick 8) d.queue.name) d.queue.most 8) d.queue.life 8) d.queue.dead
        refine vt 17 rfl (by kernel_rfl) (by kernel_rfl) (storeA tbv16ok rfl rfl rfl rfl rfl rfl rfl rfl rfl rfl ?_)
        refine vdone (by kernel_rfl) ?_
        refine go tbv16ok 5 rfl rfl trivial ?_
        refine call (out_String _) rfl rfl fun w25 => ?_
        refine go tbv16ok 5 rfl rfl trivial ?_
        refine rt2 rfl rfl ?_
        refine ple ?_
        have e : deedBytes d = (outText (outNum (outNum (outText (outNum (outNum (⟨[], 0⟩ : Out) d.kind 1) d.tick 8) d.queue.name) d.queue.most 8) d.queue.life 8) d.queue.dead).s := by
          unfold deedBytes
          first
            | (rw [if_neg (by assumption)]; done)
            | (rw [if_pos (by assumption)]; unfold deedOut; (repeat (first | rw [if_pos (by omega)] | rw [if_neg (by omega)] | rw [if_pos (by assumption)] | rw [if_neg (by assumption)] | rw [if_neg (not_not_intro (by assumption))])); first | done | rfl)
        rw [e]
        try (rw [show deedE d = 0 by assumption])
      · have p26 := df h19
        refine go tbv16ok 7 rfl rfl trivial ?_
        refine cnd rfl (fun h27 => ?_) (fun h27 => ?_)
        · have p28 := dt h27
          refine go tbv16ok 2 rfl rfl trivial ?_
          refine cndT rfl h27 ?_
          refine go tbv16ok 4 rfl rfl trivial ?_
          refine ef (alloc tbv16ok 2 rfl rfl rfl rfl fun b29 => ?_)
          refine ef (storeA tbv16ok rfl rfl rfl rfl rfl rfl rfl rfl rfl rfl ?_)
          refine go tbv16ok 6 rfl rfl trivial ?_
          refine call (head_Bytes _) rfl rfl fun w30 => ?_
          have := headBytes_len d.bind.want
          refine go tbv16ok 7 rfl rfl trivial ?_
          refine any [3, 4, 5, 6, 7, 8] 21 mixd rfl ?_
          refine gov tbv16ok [0, 1, 2] 18 rfl (by kernel_rfl) rfl rfl trivial ?_
          refine vcall 3 rfl (by kernel_rfl) (out_Text _ _ (by first | omega | (have := hrl (by assumption); omega) | (simp [outNum, outRaw, numB_len, numK] <;> omega) | (have := hrl (by assumption); simp [outNum, outRaw, numB_len, numK] <;> omega))) rfl rfl fun w31 => ?_
          have := outText_len (outNum (outNum (⟨[], 0⟩ : Out) d.kind 1) d.tick 8) d.bind.shop
          refine gov tbv16ok [4, 5] 15 rfl (by kernel_rfl) rfl rfl trivial ?_
          refine vcall 6 rfl (by kernel_rfl) (out_Text _ _ (by first | omega | (have := hrl (by assumption); omega) | (simp [outNum, outRaw, numB_len, numK] <;> omega) | (have := hrl (by assumption); simp [outNum, outRaw, numB_len, numK] <;> omega))) rfl rfl fun w32 => ?_
          have := outText_len (outText (outNum (outNum (⟨[], 0⟩ : Out) d.kind 1) d.tick 8) d.bind.shop) d.bind.to
          refine gov tbv16ok [7, 8] 12 rfl (by kernel_rfl) rfl rfl trivial ?_
          refine vcall 9 rfl (by kernel_rfl) (deed_bit _) rfl rfl fun w33 => ?_
          refine vcall 10 rfl (by kernel_rfl) (out_Num _ _ _ (by first | omega | (have := hrl (by assumption); omega) | (simp [outNum, outRaw, numB_len, numK] <;> omega) | (have := hrl (by assumption); simp [outNum, outRaw, numB_len, numK] <;> omega))) rfl rfl fun w34 => ?_
          have := outNum_len (outText (outText (outNum (outNum (⟨[], 0⟩ : Out) d.kind 1) d.tick 8) d.bind.shop) d.bind.to) (bitN d.bind.up) 1
          refine gov tbv16ok [11, 12] 8 rfl (by kernel_rfl) rfl rfl trivial ?_
          refine vcall 13 rfl (by kernel_rfl) (out_Text _ _ (by first | omega | (have := hrl (by assumption); omega) | (simp [outNum, outRaw, numB_len, numK] <;> omega) | (have := hrl (by assumption); simp [outNum, outRaw, numB_len, numK] <;> omega))) rfl rfl fun w35 => ?_
          have := outText_len (outNum (outText (outText (outNum (outNum (⟨[], 0⟩ : Out) d.kind 1) d.tick 8) d.bind.shop) d.bind.to) (bitN d.bind.up) 1) d.bind.key
          refine gov tbv16ok [14] 6 rfl (by kernel_rfl) rfl rfl trivial ?_
          refine vcall 15 rfl (by kernel_rfl) (out_Raw _ _ (by first | omega | (have := hrl (by assumption); omega) | (simp [outNum, outRaw, numB_len, numK] <;> omega) | (have := hrl (by assumption); simp [outNum, outRaw, numB_len, numK] <;> omega))) rfl rfl fun w36 => ?_
          have := outRaw_len (outText (outNum (outText (outText (outNum (outNum (⟨[], 0⟩ : Out) d.kind 1) d.tick 8) d.bind.shop) d.bind.to) (bitN d.bind.up) 1) d.bind.key) (headBytes d.bind.want)
          refine gov tbv16ok [16, 17] 3 rfl (by kernel_rfl) rfl rfl trivial ?_
          refine vcall 18 rfl (by kernel_rfl) (deed_bit _) rfl rfl fun w37 => ?_
          refine vcall 19 rfl (by kernel_rfl) (out_Num _ _ _ (by first | omega | (have := hrl (by assumption); omega) | (simp [outNum, outRaw, numB_len, numK] <;> omega) | (have := hrl (by assumption); simp [outNum, outRaw, numB_len, numK] <;> omega))) rfl rfl fun w38 => ?_
          have := outNum_len (outRaw (outText (outNum (outText (outText (outNum (outNum (⟨[], 0⟩ : Out) d.kind 1) d.tick 8) d.bind.shop) d.bind.to) (bitN d.bind.up) 1) d.bind.key) (headBytes d.bind.want)) (bitN d.bind.all) 1
          refine vt 20 rfl (by kernel_rfl) (by kernel_rfl) (storeA tbv16ok rfl rfl rfl rfl rfl rfl rfl rfl rfl rfl ?_)
          refine vdone (by kernel_rfl) ?_
          refine go tbv16ok 5 rfl rfl trivial ?_
          refine call (out_String _) rfl rfl fun w39 => ?_
          refine go tbv16ok 5 rfl rfl trivial ?_
          refine rt2 rfl rfl ?_
          refine ple ?_
          have e : deedBytes d = (outNum (outRaw (outText (outNum (outText (outText (outNum (outNum (⟨[], 0⟩ : Out) d.kind 1) d.tick 8) d.bind.shop) d.bind.to) (bitN d.bind.up) 1) d.bind.key) (headBytes d.bind.want)) (bitN d.bind.all) 1).s := by
            unfold deedBytes
            first
              | (rw [if_neg (by assumption)]; done)
              | (rw [if_pos (by assumption)]; unfold deedOut; (repeat (first | rw [if_pos (by omega)] | rw [if_neg (by omega)] | rw [if_pos (by assumption)] | rw [if_neg (by assumption)] | rw [if_neg (not_not_intro (by assumption))])); first | done | rfl)
          rw [e]
          try (rw [show deedE d = 0 by assumption])
        · have p40 := df h27
          refine go tbv16ok 5 rfl rfl trivial ?_
          refine cnd rfl (fun h41 => ?_) (fun h41 => ?_)
          · have p42 := dt h41
            refine go tbv16ok 4 rfl rfl trivial ?_
            refine ef (alloc tbv16ok 2 rfl rfl rfl rfl fun b43 => ?_)
            refine ef (storeA tbv16ok rfl rfl rfl rfl rfl rfl rfl rfl rfl rfl ?_)
            refine go tbv16ok 6 rfl rfl trivial ?_
            refine call (head_Bytes _) rfl rfl fun w44 => ?_
            have := headBytes_len d.bind.want
            refine go tbv16ok 7 rfl rfl trivial ?_
            refine any [3, 4, 5, 6, 7, 8] 21 mixd rfl ?_
            refine gov tbv16ok [0, 1, 2] 18 rfl (by kernel_rfl) rfl rfl trivial ?_
            refine vcall 3 rfl (by kernel_rfl) (out_Text _ _ (by first | omega | (have := hrl (by assumption); omega) | (simp [outNum, outRaw, numB_len, numK] <;> omega) | (have := hrl (by assumption); simp [outNum, outRaw, numB_len, numK] <;> omega))) rfl rfl fun w45 => ?_
            have := outText_len (outNum (outNum (⟨[], 0⟩ : Out) d.kind 1) d.tick 8) d.bind.shop
            refine gov tbv16ok [4, 5] 15 rfl (by kernel_rfl) rfl rfl trivial ?_
            refine vcall 6 rfl (by kernel_rfl) (out_Text _ _ (by first | omega | (have := hrl (by assumption); omega) | (simp [outNum, outRaw, numB_len, numK] <;> omega) | (have := hrl (by assumption); simp [outNum, outRaw, numB_len, numK] <;> omega))) rfl rfl fun w46 => ?_
            have := outText_len (outText (outNum (outNum (⟨[], 0⟩ : Out) d.kind 1) d.tick 8) d.bind.shop) d.bind.to
            refine gov tbv16ok [7, 8] 12 rfl (by kernel_rfl) rfl rfl trivial ?_
            refine vcall 9 rfl (by kernel_rfl) (deed_bit _) rfl rfl fun w47 => ?_
            refine vcall 10 rfl (by kernel_rfl) (out_Num _ _ _ (by first | omega | (have := hrl (by assumption); omega) | (simp [outNum, outRaw, numB_len, numK] <;> omega) | (have := hrl (by assumption); simp [outNum, outRaw, numB_len, numK] <;> omega))) rfl rfl fun w48 => ?_
            have := outNum_len (outText (outText (outNum (outNum (⟨[], 0⟩ : Out) d.kind 1) d.tick 8) d.bind.shop) d.bind.to) (bitN d.bind.up) 1
            refine gov tbv16ok [11, 12] 8 rfl (by kernel_rfl) rfl rfl trivial ?_
            refine vcall 13 rfl (by kernel_rfl) (out_Text _ _ (by first | omega | (have := hrl (by assumption); omega) | (simp [outNum, outRaw, numB_len, numK] <;> omega) | (have := hrl (by assumption); simp [outNum, outRaw, numB_len, numK] <;> omega))) rfl rfl fun w49 => ?_
            have := outText_len (outNum (outText (outText (outNum (outNum (⟨[], 0⟩ : Out) d.kind 1) d.tick 8) d.bind.shop) d.bind.to) (bitN d.bind.up) 1) d.bind.key
            refine gov tbv16ok [14] 6 rfl (by kernel_rfl) rfl rfl trivial ?_
            refine vcall 15 rfl (by kernel_rfl) (out_Raw _ _ (by first | omega | (have := hrl (by assumption); omega) | (simp [outNum, outRaw, numB_len, numK] <;> omega) | (have := hrl (by assumption); simp [outNum, outRaw, numB_len, numK] <;> omega))) rfl rfl fun w50 => ?_
            have := outRaw_len (outText (outNum (outText (outText (outNum (outNum (⟨[], 0⟩ : Out) d.kind 1) d.tick 8) d.bind.shop) d.bind.to) (bitN d.bind.up) 1) d.bind.key) (headBytes d.bind.want)
            refine gov tbv16ok [16, 17] 3 rfl (by kernel_rfl) rfl rfl trivial ?_
            refine vcall 18 rfl (by kernel_rfl) (deed_bit _) rfl rfl fun w51 => ?_
            refine vcall 19 rfl (by kernel_rfl) (out_Num _ _ _ (by first | omega | (have := hrl (by assumption); omega) | (simp [outNum, outRaw, numB_len, numK] <;> omega) | (have := hrl (by assumption); simp [outNum, outRaw, numB_len, numK] <;> omega))) rfl rfl fun w52 => ?_
            have := outNum_len (outRaw (outText (outNum (outText (outText (outNum (outNum (⟨[], 0⟩ : Out) d.kind 1) d.tick 8) d.bind.shop) d.bind.to) (bitN d.bind.up) 1) d.bind.key) (headBytes d.bind.want)) (bitN d.bind.all) 1
            refine vt 20 rfl (by kernel_rfl) (by kernel_rfl) (storeA tbv16ok rfl rfl rfl rfl rfl rfl rfl rfl rfl rfl ?_)
            refine vdone (by kernel_rfl) ?_
            refine go tbv16ok 5 rfl rfl trivial ?_
            refine call (out_String _) rfl rfl fun w53 => ?_
            refine go tbv16ok 5 rfl rfl trivial ?_
            refine rt2 rfl rfl ?_
            refine ple ?_
            have e : deedBytes d = (outNum (outRaw (outText (outNum (outText (outText (outNum (outNum (⟨[], 0⟩ : Out) d.kind 1) d.tick 8) d.bind.shop) d.bind.to) (bitN d.bind.up) 1) d.bind.key) (headBytes d.bind.want)) (bitN d.bind.all) 1).s := by
              unfold deedBytes
              first
                | (rw [if_neg (by assumption)]; done)
                | (rw [if_pos (by assumption)]; unfold deedOut; (repeat (first | rw [if_pos (by omega)] | rw [if_neg (by omega)] | rw [if_pos (by assumption)] | rw [if_neg (by assumption)] | rw [if_neg (not_not_intro (by assumption))])); first | done | rfl)
            rw [e]
            try (rw [show deedE d = 0 by assumption])
          · have p54 := df h41
            refine go tbv16ok 6 rfl rfl trivial ?_
            refine cnd rfl (fun h55 => ?_) (fun h55 => ?_)
            · have p56 := dt h55
              refine go tbv16ok 3 rfl rfl trivial ?_
              refine call (out_Raw _ _ (by first | omega | (have := hrl (by assumption); omega) | (simp [outNum, outRaw, numB_len, numK] <;> omega) | (have := hrl (by assumption); simp [outNum, outRaw, numB_len, numK] <;> omega))) rfl rfl fun w57 => ?_
              have := outRaw_len (outNum (outNum (⟨[], 0⟩ : Out) d.kind 1) d.tick 8) (mailBytes d.mail)
              refine ef (storeA tbv16ok rfl rfl rfl rfl rfl rfl rfl rfl rfl rfl ?_)
              refine go tbv16ok 6 rfl rfl trivial ?_
              refine call (out_String _) rfl rfl fun w58 => ?_
              refine go tbv16ok 5 rfl rfl trivial ?_
              refine rt2 rfl rfl ?_
              refine ple ?_
              have e : deedBytes d = (outRaw (outNum (outNum (⟨[], 0⟩ : Out) d.kind 1) d.tick 8) (mailBytes d.mail)).s := by
                unfold deedBytes
                first
                  | (rw [if_neg (by assumption)]; done)
                  | (rw [if_pos (by assumption)]; unfold deedOut; (repeat (first | rw [if_pos (by omega)] | rw [if_neg (by omega)] | rw [if_pos (by assumption)] | rw [if_neg (by assumption)] | rw [if_neg (not_not_intro (by assumption))])); first | done | rfl)
              rw [e]
              try (rw [show deedE d = 0 by assumption])
            · have p59 := df h55
              refine go tbv16ok 7 rfl rfl trivial ?_
              refine cnd rfl (fun h60 => ?_) (fun h60 => ?_)
              · have p61 := dt h60
                refine go tbv16ok 2 rfl rfl trivial ?_
                refine cndT rfl h60 ?_
                refine go tbv16ok 4 rfl rfl trivial ?_
                refine call (out_Text _ _ (by first | omega | (have := hrl (by assumption); omega) | (simp [outNum, outRaw, numB_len, numK] <;> omega) | (have := hrl (by assumption); simp [outNum, outRaw, numB_len, numK] <;> omega))) rfl rfl fun w62 => ?_
                have := outText_len (outNum (outNum (⟨[], 0⟩ : Out) d.kind 1) d.tick 8) d.name
                refine ef (storeA tbv16ok rfl rfl rfl rfl rfl rfl rfl rfl rfl rfl ?_)
                refine go tbv16ok 6 rfl rfl trivial ?_
                refine call (out_String _) rfl rfl fun w63 => ?_
                refine go tbv16ok 5 rfl rfl trivial ?_
                refine rt2 rfl rfl ?_
                refine ple ?_
                have e : deedBytes d = (outText (outNum (outNum (⟨[], 0⟩ : Out) d.kind 1) d.tick 8) d.name).s := by
                  unfold deedBytes
                  first
                    | (rw [if_neg (by assumption)]; done)
                    | (rw [if_pos (by assumption)]; unfold deedOut; (repeat (first | rw [if_pos (by omega)] | rw [if_neg (by omega)] | rw [if_pos (by assumption)] | rw [if_neg (by assumption)] | rw [if_neg (not_not_intro (by assumption))])); first | done | rfl)
                rw [e]
                try (rw [show deedE d = 0 by assumption])
              · have p64 := df h60
                refine go tbv16ok 6 rfl rfl trivial ?_
                refine cnd rfl (fun h65 => ?_) (fun h65 => ?_)
                · have p66 := dt h65
                  refine go tbv16ok 2 rfl rfl trivial ?_
                  refine cndT rfl h65 ?_
                  refine go tbv16ok 4 rfl rfl trivial ?_
                  refine call (out_Text _ _ (by first | omega | (have := hrl (by assumption); omega) | (simp [outNum, outRaw, numB_len, numK] <;> omega) | (have := hrl (by assumption); simp [outNum, outRaw, numB_len, numK] <;> omega))) rfl rfl fun w67 => ?_
                  have := outText_len (outNum (outNum (⟨[], 0⟩ : Out) d.kind 1) d.tick 8) d.name
                  refine ef (storeA tbv16ok rfl rfl rfl rfl rfl rfl rfl rfl rfl rfl ?_)
                  refine go tbv16ok 6 rfl rfl trivial ?_
                  refine call (out_String _) rfl rfl fun w68 => ?_
                  refine go tbv16ok 5 rfl rfl trivial ?_
                  refine rt2 rfl rfl ?_
                  refine ple ?_
                  have e : deedBytes d = (outText (outNum (outNum (⟨[], 0⟩ : Out) d.kind 1) d.tick 8) d.name).s := by
                    unfold deedBytes
                    first
                      | (rw [if_neg (by assumption)]; done)
                      | (rw [if_pos (by assumption)]; unfold deedOut; (repeat (first | rw [if_pos (by omega)] | rw [if_neg (by omega)] | rw [if_pos (by assumption)] | rw [if_neg (by assumption)] | rw [if_neg (not_not_intro (by assumption))])); first | done | rfl)
                  rw [e]
                  try (rw [show deedE d = 0 by assumption])
                · have p69 := df h65
                  refine go tbv16ok 5 rfl rfl trivial ?_
                  refine cnd rfl (fun h70 => ?_) (fun h70 => ?_)
                  · have p71 := dt h70
                    refine go tbv16ok 4 rfl rfl trivial ?_
                    refine call (out_Text _ _ (by first | omega | (have := hrl (by assumption); omega) | (simp [outNum, outRaw, numB_len, numK] <;> omega) | (have := hrl (by assumption); simp [outNum, outRaw, numB_len, numK] <;> omega))) rfl rfl fun w72 => ?_
                    have := outText_len (outNum (outNum (⟨[], 0⟩ : Out) d.kind 1) d.tick 8) d.name
                    refine ef (storeA tbv16ok rfl rfl rfl rfl rfl rfl rfl rfl rfl rfl ?_)
                    refine go tbv16ok 6 rfl rfl trivial ?_
                    refine call (out_String _) rfl rfl fun w73 => ?_
                    refine go tbv16ok 5 rfl rfl trivial ?_
                    refine rt2 rfl rfl ?_
                    refine ple ?_
                    have e : deedBytes d = (outText (outNum (outNum (⟨[], 0⟩ : Out) d.kind 1) d.tick 8) d.name).s := by
                      unfold deedBytes
                      first
                        | (rw [if_neg (by assumption)]; done)
                        | (rw [if_pos (by assumption)]; unfold deedOut; (repeat (first | rw [if_pos (by omega)] | rw [if_neg (by omega)] | rw [if_pos (by assumption)] | rw [if_neg (by assumption)] | rw [if_neg (not_not_intro (by assumption))])); first | done | rfl)
                    rw [e]
                    try (rw [show deedE d = 0 by assumption])
                  · have p74 := df h70
                    refine go tbv16ok 6 rfl rfl trivial ?_
                    refine cnd rfl (fun h75 => ?_) (fun h75 => ?_)
                    · have p76 := dt h75
                      refine any [2, 3, 4, 5, 6, 7] 12 mixd rfl ?_
                      refine gov tbv16ok [0, 1, 2] 9 rfl (by kernel_rfl) rfl rfl trivial ?_
                      refine vcall 3 rfl (by kernel_rfl) (out_Text _ _ (by first | omega | (have := hrl (by assumption); omega) | (simp [outNum, outRaw, numB_len, numK] <;> omega) | (have := hrl (by assumption); simp [outNum, outRaw, numB_len, numK] <;> omega))) rfl rfl fun w77 => ?_
                      have := outText_len (outNum (outNum (⟨[], 0⟩ : Out) d.kind 1) d.tick 8) d.name
                      refine gov tbv16ok [4, 5] 6 rfl (by kernel_rfl) rfl rfl trivial ?_
                      refine vcall 6 rfl (by kernel_rfl) (out_Num _ _ _ (by first | omega | (have := hrl (by assumption); omega) | (simp [outNum, outRaw, numB_len, numK] <;> omega) | (have := hrl (by assumption); simp [outNum, outRaw, numB_len, numK] <;> omega))) rfl rfl fun w78 => ?_
                      have := outNum_len (outText (outNum (outNum (⟨[], 0⟩ : Out) d.kind 1) d.tick 8) d.name) d.id 8
                      refine gov tbv16ok [7, 8, 9] 2 rfl (by kernel_rfl) rfl rfl trivial ?_
                      refine vcall 10 rfl (by kernel_rfl) (out_Num _ _ _ (by first | omega | (have := hrl (by assumption); omega) | (simp [outNum, outRaw, numB_len, numK] <;> omega) | (have := hrl (by assumption); simp [outNum, outRaw, numB_len, numK] <;> omega))) rfl rfl fun w79 => ?_
                      have := outNum_len (outNum (outText (outNum (outNum (⟨[], 0⟩ : Out) d.kind 1) d.tick 8) d.name) d.id 8) d.how 1
                      refine vt 11 rfl (by kernel_rfl) (by kernel_rfl) (storeA tbv16ok rfl rfl rfl rfl rfl rfl rfl rfl rfl rfl ?_)
                      refine vdone (by kernel_rfl) ?_
                      refine go tbv16ok 5 rfl rfl trivial ?_
                      refine call (out_String _) rfl rfl fun w80 => ?_
                      refine go tbv16ok 5 rfl rfl trivial ?_
                      refine rt2 rfl rfl ?_
                      refine ple ?_
                      have e : deedBytes d = (outNum (outNum (outText (outNum (outNum (⟨[], 0⟩ : Out) d.kind 1) d.tick 8) d.name) d.id 8) d.how 1).s := by
                        unfold deedBytes
                        first
                          | (rw [if_neg (by assumption)]; done)
                          | (rw [if_pos (by assumption)]; unfold deedOut; (repeat (first | rw [if_pos (by omega)] | rw [if_neg (by omega)] | rw [if_pos (by assumption)] | rw [if_neg (by assumption)] | rw [if_neg (not_not_intro (by assumption))])); first | done | rfl)
                      rw [e]
                      try (rw [show deedE d = 0 by assumption])
                    · have p81 := df h75
                      refine go tbv16ok 6 rfl rfl trivial ?_
                      refine cnd rfl (fun h82 => ?_) (fun h82 => ?_)
                      · have p83 := dt h82
                        refine any [2, 3, 4, 5, 6, 7] 11 mixd rfl ?_
                        refine gov tbv16ok [0, 1, 2, 3] 7 rfl (by kernel_rfl) rfl rfl trivial ?_
                        refine vcall 4 rfl (by kernel_rfl) (out_Num _ _ _ (by first | omega | (have := hrl (by assumption); omega) | (simp [outNum, outRaw, numB_len, numK] <;> omega) | (have := hrl (by assumption); simp [outNum, outRaw, numB_len, numK] <;> omega))) rfl rfl fun w84 => ?_
                        have := outNum_len (outNum (outNum (⟨[], 0⟩ : Out) d.kind 1) d.tick 8) d.frm 1
                        refine gov tbv16ok [5, 6] 4 rfl (by kernel_rfl) rfl rfl trivial ?_
                        refine vcall 7 rfl (by kernel_rfl) (out_Num _ _ _ (by first | omega | (have := hrl (by assumption); omega) | (simp [outNum, outRaw, numB_len, numK] <;> omega) | (have := hrl (by assumption); simp [outNum, outRaw, numB_len, numK] <;> omega))) rfl rfl fun w85 => ?_
                        have := outNum_len (outNum (outNum (outNum (⟨[], 0⟩ : Out) d.kind 1) d.tick 8) d.frm 1) d.number 8
                        refine gov tbv16ok [8] 2 rfl (by kernel_rfl) rfl rfl trivial ?_
                        refine vcall 9 rfl (by kernel_rfl) (out_Raw _ _ (by first | omega | (have := hrl (by assumption); omega) | (simp [outNum, outRaw, numB_len, numK] <;> omega) | (have := hrl (by assumption); simp [outNum, outRaw, numB_len, numK] <;> omega))) rfl rfl fun w86 => ?_
                        have := outRaw_len (outNum (outNum (outNum (outNum (⟨[], 0⟩ : Out) d.kind 1) d.tick 8) d.frm 1) d.number 8) (mailBytes d.mail)
                        refine vt 10 rfl (by kernel_rfl) (by kernel_rfl) (storeA tbv16ok rfl rfl rfl rfl rfl rfl rfl rfl rfl rfl ?_)
                        refine vdone (by kernel_rfl) ?_
                        refine go tbv16ok 5 rfl rfl trivial ?_
                        refine call (out_String _) rfl rfl fun w87 => ?_
                        refine go tbv16ok 5 rfl rfl trivial ?_
                        refine rt2 rfl rfl ?_
                        refine ple ?_
                        have e : deedBytes d = (outRaw (outNum (outNum (outNum (outNum (⟨[], 0⟩ : Out) d.kind 1) d.tick 8) d.frm 1) d.number 8) (mailBytes d.mail)).s := by
                          unfold deedBytes
                          first
                            | (rw [if_neg (by assumption)]; done)
                            | (rw [if_pos (by assumption)]; unfold deedOut; (repeat (first | rw [if_pos (by omega)] | rw [if_neg (by omega)] | rw [if_pos (by assumption)] | rw [if_neg (by assumption)] | rw [if_neg (not_not_intro (by assumption))])); first | done | rfl)
                        rw [e]
                        try (rw [show deedE d = 0 by assumption])
                      · have p88 := df h82
                        refine go tbv16ok 6 rfl rfl trivial ?_
                        refine cnd rfl (fun h89 => ?_) (fun h89 => ?_)
                        · have p90 := dt h89
                          refine any [2, 3, 4, 5, 6, 7] 9 mixd rfl ?_
                          refine gov tbv16ok [0, 1, 2, 3] 5 rfl (by kernel_rfl) rfl rfl trivial ?_
                          refine vcall 4 rfl (by kernel_rfl) (out_Num _ _ _ (by first | omega | (have := hrl (by assumption); omega) | (simp [outNum, outRaw, numB_len, numK] <;> omega) | (have := hrl (by assumption); simp [outNum, outRaw, numB_len, numK] <;> omega))) rfl rfl fun w91 => ?_
                          have := outNum_len (outNum (outNum (⟨[], 0⟩ : Out) d.kind 1) d.tick 8) d.code 1
                          refine gov tbv16ok [5, 6] 2 rfl (by kernel_rfl) rfl rfl trivial ?_
                          refine vcall 7 rfl (by kernel_rfl) (out_Text _ _ (by first | omega | (have := hrl (by assumption); omega) | (simp [outNum, outRaw, numB_len, numK] <;> omega) | (have := hrl (by assumption); simp [outNum, outRaw, numB_len, numK] <;> omega))) rfl rfl fun w92 => ?_
                          have := outText_len (outNum (outNum (outNum (⟨[], 0⟩ : Out) d.kind 1) d.tick 8) d.code 1) d.text
                          refine vt 8 rfl (by kernel_rfl) (by kernel_rfl) (storeA tbv16ok rfl rfl rfl rfl rfl rfl rfl rfl rfl rfl ?_)
                          refine vdone (by kernel_rfl) ?_
                          refine go tbv16ok 5 rfl rfl trivial ?_
                          refine call (out_String _) rfl rfl fun w93 => ?_
                          refine go tbv16ok 5 rfl rfl trivial ?_
                          refine rt2 rfl rfl ?_
                          refine ple ?_
                          have e : deedBytes d = (outText (outNum (outNum (outNum (⟨[], 0⟩ : Out) d.kind 1) d.tick 8) d.code 1) d.text).s := by
                            unfold deedBytes
                            first
                              | (rw [if_neg (by assumption)]; done)
                              | (rw [if_pos (by assumption)]; unfold deedOut; (repeat (first | rw [if_pos (by omega)] | rw [if_neg (by omega)] | rw [if_pos (by assumption)] | rw [if_neg (by assumption)] | rw [if_neg (not_not_intro (by assumption))])); first | done | rfl)
                          rw [e]
                          try (rw [show deedE d = 0 by assumption])
                        · have p94 := df h89
                          refine go tbv16ok 6 rfl rfl trivial ?_
                          refine call (out_String _) rfl rfl fun w95 => ?_
                          refine go tbv16ok 5 rfl rfl trivial ?_
                          refine rt2 rfl rfl ?_
                          refine ple ?_
                          have e : deedBytes d = (outNum (outNum (⟨[], 0⟩ : Out) d.kind 1) d.tick 8).s := by
                            unfold deedBytes
                            first
                              | (rw [if_neg (by assumption)]; done)
                              | (rw [if_pos (by assumption)]; unfold deedOut; (repeat (first | rw [if_pos (by omega)] | rw [if_neg (by omega)] | rw [if_pos (by assumption)] | rw [if_neg (by assumption)] | rw [if_neg (not_not_intro (by assumption))])); first | done | rfl)
                          rw [e]
                          try (rw [show deedE d = 0 by assumption])
end Go.SW.V
set_option linter.unusedVariables false
set_option maxRecDepth 100000
set_option maxHeartbeats 4000000
namespace Go.SW.V
open Go.SW Go.Proofs
theorem cb51 : Callable Tryz.prog 51 := callable_of Tryz.func51 (by kernel_rfl) (by kernel_rfl)
theorem cb52 : Callable Tryz.prog 52 := callable_of Tryz.func52 (by kernel_rfl) (by kernel_rfl)
theorem cb93 : Callable Tryz.prog 93 := callable_of Tryz.func93 (by kernel_rfl) (by kernel_rfl)
def tbv18 : Tb := [(9, ⟨.str, 1, 16, [.str []]⟩),
  (146, ⟨.slc 9, 1, 24, [.sl strc []]⟩)]
theorem tbv18ok : tbB Tryz.prog tbv18 = true := by kernel_rfl
theorem r4_Name (s : Bs) : Fn Tryz.prog gb 51 [.str s] (.int .i64 (nameE s)) := by
  refine fn_cw tbv18ok Tryz.func51 rfl Tryz.ntmps51 rfl cb51 rfl rfl fun w N H hG => ?_
  have s_l : s.length ≤ 9223372036854775807 := w.1
  refine go tbv18ok 13 rfl rfl trivial ?_
  refine cnd rfl (fun h1 => ?_) (fun h1 => ?_)
  · have p2 := dt h1
    refine go tbv18ok 7 rfl rfl trivial ?_
    refine rt1 rfl rfl ?_
    refine ple ?_
    have : s = [] := List.eq_nil_of_length_eq_zero (by omega)
    subst this
    rfl
  · have p3 := df h1
    refine go tbv18ok 10 rfl rfl trivial ?_
    refine cnd rfl (fun h4 => ?_) (fun h4 => ?_)
    · have p5 := dt h4
      refine go tbv18ok 7 rfl rfl trivial ?_
      refine rt1 rfl rfl ?_
      refine ple ?_
      have hne : ¬ s = [] := fun q => by subst q; simp at *
      unfold nameE
      rw [if_neg hne, if_pos (by omega)]
    · have p6 := df h4
      refine go tbv18ok 9 rfl rfl trivial ?_
      refine loop (ι := Nat) [0, 4, 5, 6, 7, 8, 9] [] (fun k => [(3, .int .i64 (k : Int))]) (fun k => []) (fun k => k ≤ s.length ∧ (s.drop k).all (fun c => letter c.toNat) = plain s) (fun k => s.length - k) 0 ⟨rfl, trivial⟩ trivial ?_ ?_
      · exact ⟨by omega, rfl⟩
      · rintro k hp7
        obtain ⟨hk1, hk2⟩ := hp7
        refine go tbv18ok 9 rfl rfl trivial ?_
        refine cnd rfl (fun h8 => ?_) (fun h8 => ?_)
        · have p9 := dt h8
          have := u8r (s.getD k 0)
          refine go tbv18ok 8 rfl rfl trivial ?_
          refine q1 (sidx tbv18ok k rfl rfl rfl rfl rfl (by omega)) rfl fun w10 => ?_
          refine call (r4_letter _) rfl rfl fun w11 => ?_
          refine go tbv18ok 3 rfl rfl trivial ?_
          refine cnd rfl (fun h12 => ?_) (fun h12 => ?_)
          · have h13 := not_t h12
            refine go tbv18ok 11 rfl rfl trivial ?_
            refine rt1 rfl rfl ?_
            refine ple ?_
            have hne : ¬ s = [] := fun q => by subst q; simp at *
            unfold nameE
            rw [if_neg hne, if_neg (by omega), ← hk2, letter_all (k := k) (by omega)]
            simp only [*, Bool.false_and, Bool.false_eq_true, if_false]
          · have h14 := not_f h12
            refine go tbv18ok 8 rfl rfl ⟨(by omega), trivial⟩ ?_
            refine next (k + 1) rfl rfl ⟨rfl, trivial⟩ trivial ?_ ?_
            · omega
            · refine ⟨by omega, ?_⟩
              rw [← hk2, letter_all (k := k) (by omega)]
              simp only [*, Bool.true_and]
        · have p15 := df h8
          refine go tbv18ok 11 rfl rfl trivial ?_
          refine rt1 rfl rfl ?_
          refine ple ?_
          have hne : ¬ s = [] := fun q => by subst q; simp at *
          unfold nameE
          rw [if_neg hne, if_neg (by omega), ← hk2, List.drop_of_length_le (by omega)]
          rfl
theorem r4_Split (s : Bs) (hs : s.length ≤ 1000000) : Fn Tryz.prog gb 93 [.str s] (.sl strc (wordsOf s)) := by
  refine fn_cw tbv18ok Tryz.func93 rfl Tryz.ntmps93 rfl cb93 rfl rfl fun w N H hG => ?_
  have s_l : s.length ≤ 9223372036854775807 := w.1
  refine go tbv18ok 13 rfl rfl trivial ?_
  refine cnd rfl (fun h1 => ?_) (fun h1 => ?_)
  · have p2 := dt h1
    refine go tbv18ok 7 rfl rfl trivial ?_
    refine rt1 rfl rfl ?_
    refine ple_nilx ?_
    unfold wordsOf; rw [if_pos (List.eq_nil_of_length_eq_zero (by omega))]
  · have p3 := df h1
    refine go tbv18ok 19 rfl rfl trivial ?_
    refine sw_own (t := 3) (k := 1) (e := 9) 0 strc rfl rfl ?_
    refine loop (ι := Nat × Nat × (List Bs) × Value) [0, 2, 6, 7, 8] [] (fun ⟨f, k, out, u_out⟩ => [(3, .osl 0), (4, .int .i64 (f : Int)), (5, .int .i64 (k : Int))]) (fun ⟨f, k, out, u_out⟩ => [(0, .arr u_out 1 9 strc out)]) (fun ⟨f, k, out, u_out⟩ => f ≤ k ∧ k ≤ s.length ∧ dots s = out ++ dots (s.drop f) ∧ noDot s f k ∧ out.length ≤ k) (fun ⟨f, k, out, u_out⟩ => s.length - k) ⟨0, 0, [], (.slice none 0 0)⟩ ⟨rfl, rfl, rfl, trivial⟩ ⟨rfl, trivial⟩ ?_ ?_
    · exact ⟨Nat.le_refl _, Nat.zero_le _, rfl, noDot_nil, Nat.zero_le _⟩
    · rintro ⟨f, k, out, u_out⟩ hp4
      obtain ⟨hk1, hk2, hk3, hk4, hk5⟩ := hp4
      refine go tbv18ok 9 rfl rfl trivial ?_
      refine cnd rfl (fun h5 => ?_) (fun h5 => ?_)
      · have p6 := dt h5
        have := u8r (s.getD k 0)
        refine go tbv18ok 8 rfl rfl trivial ?_
        refine q1 (sidx tbv18ok k rfl rfl rfl rfl rfl (by omega)) rfl fun w7 => ?_
        refine go tbv18ok 3 rfl rfl trivial ?_
        refine cnd rfl (fun h8 => ?_) (fun h8 => ?_)
        · have p9 := dt h8
          refine go tbv18ok 6 rfl rfl trivial ?_
          refine q1 (ssl tbv18ok f k rfl rfl rfl rfl rfl rfl rfl (by omega) (by omega)) rfl fun w10 => ?_
          refine ef (bsl 1 strc [((s.drop f).take (k - f))] tbv18ok rfl rfl rfl rfl rfl (fun _ => rfl) rfl (by decide) (by decide) rfl fun u11 => ?_)
          refine ef (app tbv18ok [((s.drop f).take (k - f))] rfl rfl rfl rfl rfl rfl rfl rfl rfl (src_o rfl rfl) (by first | omega | (simp; omega)) rfl fun u12 => ?_)
          refine go tbv18ok 15 rfl rfl ⟨(by omega), (by omega), trivial⟩ ?_
          refine next ⟨(k + 1), (k + 1), (out ++ [((s.drop f).take (k - f))]), (u12)⟩ rfl rfl ⟨rfl, rfl, rfl, trivial⟩ ⟨rfl, trivial⟩ ?_ ?_
          · (try simp only []); omega
          · (try simp only [])
            refine ⟨by omega, by omega, split_hit hk3 hk4 (by omega) (by omega) (byteEq (n := 46) (by omega) (by omega)), noDot_nil, by simp; omega⟩
        · have p13 := df h8
          refine go tbv18ok 8 rfl rfl ⟨(by omega), trivial⟩ ?_
          refine next ⟨f, (k + 1), out, (u_out)⟩ rfl rfl ⟨rfl, rfl, rfl, trivial⟩ ⟨rfl, trivial⟩ ?_ ?_
          · (try simp only []); omega
          · exact ⟨by omega, by omega, hk3, noDot_step hk4 (byteNe (n := 46) (by omega) (by omega)), by omega⟩
      · have p14 := df h5
        refine go tbv18ok 10 rfl rfl trivial ?_
        refine q1 (sslo tbv18ok f rfl rfl rfl rfl rfl (by omega)) rfl fun w15 => ?_
        refine ef (bsl 1 strc [(s.drop f)] tbv18ok rfl rfl rfl rfl rfl (fun _ => rfl) rfl (by decide) (by decide) rfl fun u16 => ?_)
        refine ef (app tbv18ok [(s.drop f)] rfl rfl rfl rfl rfl rfl rfl rfl rfl (src_o rfl rfl) (by first | omega | (simp; omega)) rfl fun u17 => ?_)
        refine go tbv18ok 3 rfl rfl trivial ?_
        refine givec 0 rfl ?_
        refine go tbv18ok 1 rfl rfl trivial ?_
        refine rt1 rfl rfl ?_
        refine ple ?_
        have hne : ¬ s = [] := fun q => by subst q; simp at *
        have e : wordsOf s = (out ++ [(s.drop f)]) := by unfold wordsOf; rw [if_neg hne]; exact split_end hk3 hk4 (by omega)
        first | (rw [e]; done) | (rw [e]; rfl)
theorem r4_Key (s : Bs) (pattern : Bool) : Fn Tryz.prog gb 52 [.str s, .bool pattern] (.int .i64 (keyE (besidesOf pattern) s)) := by
  refine fn_cw tbv18ok Tryz.func52 rfl Tryz.ntmps52 rfl cb52 rfl rfl fun w N H hG => ?_
  have s_l : s.length ≤ 9223372036854775807 := w.1
  refine go tbv18ok 13 rfl rfl trivial ?_
  refine cnd rfl (fun h1 => ?_) (fun h1 => ?_)
  · have p2 := dt h1
    refine go tbv18ok 7 rfl rfl trivial ?_
    refine rt1 rfl rfl ?_
    refine ple ?_
    unfold keyE
    rw [if_pos (by omega)]
  · have p3 := df h1
    refine go tbv18ok 6 rfl rfl trivial ?_
    refine call (r4_Split _ (by first | omega | (simp; done) | decide)) rfl rfl fun w4 => ?_
    refine go tbv18ok 5 rfl rfl trivial ?_
    refine loop (ι := Nat) [0, 1, 9, 10, 11, 12, 13, 14] [] (fun k => [(15, .int .i64 (k : Int))]) (fun k => []) (fun k => k ≤ (wordsOf s).length ∧ (wordsOf s).any (isBad (besidesOf pattern)) = ((wordsOf s).drop k).any (isBad (besidesOf pattern))) (fun k => (wordsOf s).length - k) 0 ⟨rfl, trivial⟩ trivial ?_ ?_
    · exact ⟨Nat.zero_le _, by simp⟩
    · rintro k hp5
      obtain ⟨hk1, hk2⟩ := hp5
      have hwl := words_le s
      refine go tbv18ok 6 rfl rfl trivial ?_
      refine cnd rfl (fun h6 => ?_) (fun h6 => ?_)
      · have p7 := dt h6
        obtain ⟨c8, hc9⟩ := getE (xs := wordsOf s) (m := k) (by omega)
        have c8_l : c8.length ≤ 9223372036854775807 := (w4.2 c8 (List.mem_of_getElem? hc9)).1
        refine go tbv18ok 6 rfl rfl trivial ?_
        refine q1 (qidx tbv18ok k rfl rfl rfl hc9 rfl rfl rfl rfl) rfl fun w10 => ?_
        refine go tbv18ok 19 rfl rfl trivial ?_
        refine loop (ι := Nat × Bool) [0, 1, 6, 9, 10, 11, 12, 13, 14, 15, 16, 17, 18, 19, 20, 21] [] (fun ⟨j, b⟩ => [(7, .bool b), (8, .int .i64 (j : Int))]) (fun ⟨j, b⟩ => []) (fun ⟨j, b⟩ => j ≤ c8.length ∧ (decide ((c8.length : Int) = 0) || !plain c8) = (b || !((c8.drop j).all (fun c => letter c.toNat)))) (fun ⟨j, b⟩ => c8.length - j) ⟨0, (decide ((c8.length : Int) = 0))⟩ ⟨rfl, rfl, trivial⟩ trivial ?_ ?_
        · exact ⟨Nat.zero_le _, rfl⟩
        · rintro ⟨j, b⟩ hp11
          obtain ⟨hj1, hj2⟩ := hp11
          refine go tbv18ok 9 rfl rfl trivial ?_
          refine cnd rfl (fun h12 => ?_) (fun h12 => ?_)
          · have p13 := dt h12
            have := u8r (c8.getD j 0)
            refine go tbv18ok 9 rfl rfl trivial ?_
            refine q1g [30, 31] rfl (fun hc => sidx tbv18ok j rfl rfl rfl rfl rfl (by omega)) ⟨(fun hc => hc), (fun hc => hc), trivial⟩ rfl rfl rfl fun _ => ?_
            refine callg rfl (fun hc => (r4_letter _)) rfl ⟨(fun hc => hc), trivial⟩ rfl rfl fun _ => ?_
            refine go tbv18ok 11 rfl rfl ⟨(fun hc => hc), rfl, rfl, (by omega), trivial⟩ ?_
            refine next ⟨(j + 1), (b || (!(letter ((c8.getD j 0).toNat : Int))))⟩ rfl rfl ⟨rfl, rfl, trivial⟩ trivial ?_ ?_
            · (try simp only []); omega
            · refine ⟨by omega, ?_⟩
              rw [hj2, letter_all (k := j) (by omega)]
              simp only [*, Bool.true_or, Bool.false_or, Bool.not_and, Bool.not_true, Bool.not_false, Bool.false_and, Bool.true_and, Bool.or_assoc]
          · have p14 := df h12
            refine go tbv18ok 22 rfl rfl ⟨(fun hc => hc), (fun hc => hc), (fun hc => hc), (fun hc => hc), (fun hc => hc), (fun hc => (by rw [hc]; rfl)), (fun hc => rfl), (fun hc => hc), (fun hc => (by rw [hc]; rfl)), (fun hc => rfl), (fun hc => hc), rfl, rfl, trivial⟩ ?_
            refine cnd rfl (fun h15 => ?_) (fun h15 => ?_)
            · have h16 := bl h15
              have h17 := br h15
              have h18 := not_t h17
              refine go tbv18ok 11 rfl rfl trivial ?_
              refine rt1 rfl rfl ?_
              refine ple ?_
              rw [List.drop_of_length_le (by omega)] at hj2
              have hX := hj2
              simp only [List.all_nil, Bool.not_true, Bool.or_false] at hX
              have hb : isBad (besidesOf pattern) c8 = true := by rw [isBad_doc hX]; first | (simp [*]; done) | (simp_all; done) | (cases pattern <;> simp_all; done) | grind
              unfold keyE
              rw [if_neg (by omega), hk2, dropE hc9, List.any_cons, hb]
              rfl
            · refine go tbv18ok 7 rfl rfl ⟨(by omega), trivial⟩ ?_
              refine next (k + 1) rfl rfl ⟨rfl, trivial⟩ trivial ?_ ?_
              · omega
              · refine ⟨by omega, ?_⟩
                rw [List.drop_of_length_le (by omega)] at hj2
                have hX := hj2
                simp only [List.all_nil, Bool.not_true, Bool.or_false] at hX
                have hb : isBad (besidesOf pattern) c8 = false := by rw [isBad_doc hX]; first | (simp [*]; done) | (simp_all; done) | (cases pattern <;> simp_all; done) | grind
                rw [hk2, dropE hc9, List.any_cons, hb]
                simp
      · have p19 := df h6
        refine go tbv18ok 11 rfl rfl trivial ?_
        refine rt1 rfl rfl ?_
        refine ple ?_
        unfold keyE
        rw [if_neg (by omega), hk2, List.drop_of_length_le (by omega)]
        rfl
end Go.SW.V
set_option linter.unusedVariables false
set_option maxRecDepth 100000
set_option maxHeartbeats 4000000
namespace Go.SW.V
open Go.SW Go.Proofs
theorem cb111 : Callable Tryz.prog 111 := callable_of Tryz.func111 (by kernel_rfl) (by kernel_rfl)
theorem cb53 : Callable Tryz.prog 53 := callable_of Tryz.func53 (by kernel_rfl) (by kernel_rfl)
theorem cb94 : Callable Tryz.prog 94 := callable_of Tryz.func94 (by kernel_rfl) (by kernel_rfl)
def tbv19 : Tb := [(2, ⟨.int .i64, 1, 8, [.int .i64 0]⟩),
  (5, ⟨.int .u8, 1, 1, [.int .u8 0]⟩),
  (9, ⟨.str, 1, 16, [.str []]⟩),
  (47, ⟨.slc 139, 1, 24, [.sl Pair.pc []]⟩),
  (139, ⟨.agg [(0, 1), (1, 1), (2, 1), (3, 1)], 4, 48, [.str [], .int .u8 0, .int .i64 0, .str []]⟩)]
theorem tbv19ok : tbB Tryz.prog tbv19 = true := by kernel_rfl
theorem r9_Pair (p : Pair) (ahead : List Pair) : Fn Tryz.prog gb 94 [.agg (Pair.pc p), .sl Pair.pc ahead] (.int .i64 (pairErr p ahead)) := by
  refine fn_cw tbv19ok Tryz.func94 rfl Tryz.ntmps94 rfl cb94 rfl rfl fun w N H hG => ?_
  have ahead_l : ahead.length ≤ 140737488355328 := w.2.1.1
  refine go tbv19ok 2 rfl rfl trivial ?_
  refine ef (boxA 0 rfl rfl rfl fun b1 => ?_)
  refine go tbv19ok 7 rfl rfl trivial ?_
  refine call (r4_Name _) rfl rfl fun w2 => ?_
  refine go tbv19ok 10 rfl rfl trivial ?_
  refine cnd rfl (fun h3 => ?_) (fun h3 => ?_)
  · have h4 := not_t h3
    have p5 := df h4
    refine go tbv19ok 8 rfl rfl trivial ?_
    refine rt1 rfl rfl ?_
    refine ple ?_
    refine congrArg (PV.int .i64) ?_
    rw [pairErr_doc]
    simp only [Bool.or_eq_true, Bool.and_eq_true, Bool.not_eq_true', decide_eq_true_eq, Bool.or_eq_false_iff, Bool.and_eq_false_iff, Bool.not_eq_false', decide_eq_false_iff_not, beq_iff_eq, beq_eq_false_iff_ne] at *
    first | (simp [*]; done) | (simp [*]; omega) | ((repeat' split) <;> first | rfl | omega | (exfalso; simp_all; done) | (exfalso; simp_all; omega) | grind)
  · have h6 := not_f h3
    have p7 := dt h6
    refine go tbv19ok 10 rfl rfl trivial ?_
    refine cnd rfl (fun h8 => ?_) (fun h8 => ?_)
    · have p9 := dt h8
      refine go tbv19ok 7 rfl rfl trivial ?_
      refine rt1 rfl rfl ?_
      refine ple ?_
      refine congrArg (PV.int .i64) ?_
      rw [pairErr_doc]
      simp only [Bool.or_eq_true, Bool.and_eq_true, Bool.not_eq_true', decide_eq_true_eq, Bool.or_eq_false_iff, Bool.and_eq_false_iff, Bool.not_eq_false', decide_eq_false_iff_not, beq_iff_eq, beq_eq_false_iff_ne] at *
      first | (simp [*]; done) | (simp [*]; omega) | ((repeat' split) <;> first | rfl | omega | (exfalso; simp_all; done) | (exfalso; simp_all; omega) | grind)
    · have p10 := df h8
      refine go tbv19ok 16 rfl rfl ⟨(fun hc => hc), (fun hc => hc), (fun hc => hc), rfl, rfl, trivial⟩ ?_
      refine cnd rfl (fun h11 => ?_) (fun h11 => ?_)
      · have h12 := bl h11
        have p13 := dt h12
        have h14 := br h11
        have p15 := dt h14
        refine go tbv19ok 7 rfl rfl trivial ?_
        refine rt1 rfl rfl ?_
        refine ple ?_
        refine congrArg (PV.int .i64) ?_
        rw [pairErr_doc]
        simp only [Bool.or_eq_true, Bool.and_eq_true, Bool.not_eq_true', decide_eq_true_eq, Bool.or_eq_false_iff, Bool.and_eq_false_iff, Bool.not_eq_false', decide_eq_false_iff_not, beq_iff_eq, beq_eq_false_iff_ne] at *
        first | (simp [*]; done) | (simp [*]; omega) | ((repeat' split) <;> first | rfl | omega | (exfalso; simp_all; done) | (exfalso; simp_all; omega) | grind)
      · refine go tbv19ok 20 rfl rfl ⟨(fun hc => hc), (fun hc => hc), (fun hc => hc), (fun hc => hc), (fun hc => hc), (fun hc => hc), (fun hc => (by rw [hc]; rfl)), (fun hc => rfl), rfl, rfl, trivial⟩ ?_
        refine cnd rfl (fun h16 => ?_) (fun h16 => ?_)
        · have h17 := bl h16
          have p18 := dt h17
          have h19 := br h16
          refine go tbv19ok 7 rfl rfl trivial ?_
          refine rt1 rfl rfl ?_
          refine ple ?_
          refine congrArg (PV.int .i64) ?_
          rw [pairErr_doc]
          simp only [Bool.or_eq_true, Bool.and_eq_true, Bool.not_eq_true', decide_eq_true_eq, Bool.or_eq_false_iff, Bool.and_eq_false_iff, Bool.not_eq_false', decide_eq_false_iff_not, beq_iff_eq, beq_eq_false_iff_ne] at *
          first | (simp [*]; done) | (simp [*]; omega) | ((repeat' split) <;> first | rfl | omega | (exfalso; simp_all; done) | (exfalso; simp_all; omega) | grind)
        · refine go tbv19ok 25 rfl rfl ⟨(fun hc => hc), (fun hc => hc), rfl, rfl, (fun hc => hc), (fun hc => hc), (fun hc => hc), (fun hc => hc), (fun hc => hc), (fun hc => hc), (fun hc => (by rw [hc]; rfl)), (fun hc => rfl), rfl, rfl, trivial⟩ ?_
          refine cnd rfl (fun h20 => ?_) (fun h20 => ?_)
          · refine go tbv19ok 7 rfl rfl trivial ?_
            refine rt1 rfl rfl ?_
            refine ple ?_
            refine congrArg (PV.int .i64) ?_
            rw [pairErr_doc]
            simp only [Bool.or_eq_true, Bool.and_eq_true, Bool.not_eq_true', decide_eq_true_eq, Bool.or_eq_false_iff, Bool.and_eq_false_iff, Bool.not_eq_false', decide_eq_false_iff_not, beq_iff_eq, beq_eq_false_iff_ne] at *
            first | (simp [*]; done) | (simp [*]; omega) | ((repeat' split) <;> first | rfl | omega | (exfalso; simp_all; done) | (exfalso; simp_all; omega) | grind)
          · have h21 := orl h20
            have h22 := orr h20
            refine go tbv19ok 11 rfl rfl trivial ?_
            refine loop (ι := Nat) [0, 1, 2, 5, 8, 9, 10, 11, 12, 14, 15, 16, 17, 18, 19, 20, 21, 22, 23, 24, 25, 26, 27, 28, 29, 30, 31, 32, 33, 34, 35, 36, 37, 38, 39, 40, 41, 42, 43, 44, 45, 46, 47, 48, 49, 50, 51, 52, 53, 54, 55, 56, 57, 58] [0] (fun k => [(59, .int .i64 (k : Int))]) (fun k => []) (fun k => k ≤ ahead.length ∧ findP ahead p.key = findP (ahead.drop k) p.key) (fun k => ahead.length - k) 0 ⟨rfl, trivial⟩ trivial ?_ ?_
            · exact ⟨Nat.zero_le _, rfl⟩
            · rintro k hp23
              obtain ⟨hk1, hk2⟩ := hp23
              refine go tbv19ok 6 rfl rfl trivial ?_
              refine cnd rfl (fun h24 => ?_) (fun h24 => ?_)
              · have p25 := dt h24
                obtain ⟨c26, hc27⟩ := getE (xs := ahead) (m := k) (by omega)
                have c26_w := Pair.pwf (w.2.1.2 c26 (List.mem_of_getElem? hc27))
                refine go tbv19ok 6 rfl rfl trivial ?_
                refine q1 (qidx tbv19ok k rfl rfl rfl hc27 rfl rfl rfl rfl) rfl fun w28 => ?_
                refine go tbv19ok 1 rfl rfl trivial ?_
                refine ef (alloc tbv19ok 1 rfl rfl rfl rfl fun b29 => ?_)
                refine ef (storeA tbv19ok rfl rfl rfl rfl rfl rfl rfl rfl rfl rfl ?_)
                refine go tbv19ok 11 rfl rfl trivial ?_
                refine cnd rfl (fun h30 => ?_) (fun h30 => ?_)
                · have p31 := dt h30
                  refine go tbv19ok 11 rfl rfl trivial ?_
                  refine rt1 rfl rfl ?_
                  refine ple ?_
                  have e9 := findP_hit hk2 (dropE hc27) (by assumption)
                  clear hk2
                  refine congrArg (PV.int .i64) ?_
                  rw [pairErr_doc]
                  simp only [Bool.or_eq_true, Bool.and_eq_true, Bool.not_eq_true', decide_eq_true_eq, Bool.or_eq_false_iff, Bool.and_eq_false_iff, Bool.not_eq_false', decide_eq_false_iff_not, beq_iff_eq, beq_eq_false_iff_ne] at *
                  first | (simp [*]; done) | (simp [*]; omega) | ((repeat' split) <;> first | rfl | omega | (exfalso; simp_all; done) | (exfalso; simp_all; omega) | grind)
                · have p32 := df h30
                  refine go tbv19ok 7 rfl rfl ⟨(by omega), trivial⟩ ?_
                  refine next (k + 1) rfl rfl ⟨rfl, trivial⟩ trivial ?_ ?_
                  · omega
                  · exact ⟨by omega, findP_miss hk2 (dropE hc27) (by assumption)⟩
              · have p33 := df h24
                refine go tbv19ok 11 rfl rfl trivial ?_
                refine rt1 rfl rfl ?_
                refine ple ?_
                have e9 : findP ahead p.key = none := by rw [hk2, List.drop_of_length_le (by omega)]; rfl
                clear hk2
                refine congrArg (PV.int .i64) ?_
                rw [pairErr_doc]
                simp only [Bool.or_eq_true, Bool.and_eq_true, Bool.not_eq_true', decide_eq_true_eq, Bool.or_eq_false_iff, Bool.and_eq_false_iff, Bool.not_eq_false', decide_eq_false_iff_not, beq_iff_eq, beq_eq_false_iff_ne] at *
                first | (simp [*]; done) | (simp [*]; omega) | ((repeat' split) <;> first | rfl | omega | (exfalso; simp_all; done) | (exfalso; simp_all; omega) | grind)
theorem r9_Check (h : List Pair) : Fn Tryz.prog gb 53 [.sl Pair.pc h] (.int .i64 (headE h)) := by
  refine fn_cw tbv19ok Tryz.func53 rfl Tryz.ntmps53 rfl cb53 rfl rfl fun w N H hG => ?_
  have h_l : h.length ≤ 140737488355328 := w.1.1
  refine go tbv19ok 13 rfl rfl trivial ?_
  refine cnd rfl (fun h1 => ?_) (fun h1 => ?_)
  · have p2 := dt h1
    refine go tbv19ok 7 rfl rfl trivial ?_
    refine rt1 rfl rfl ?_
    refine ple ?_
    simp [headE, *]
  · have p3 := df h1
    refine go tbv19ok 11 rfl rfl trivial ?_
    refine loop (ι := Nat) [0, 6, 7, 8, 9, 10] [] (fun k => [(11, .int .i64 (k : Int))]) (fun k => []) (fun k => k ≤ h.length ∧ headGo [] h = headGo (h.take k) (h.drop k)) (fun k => h.length - k) 0 ⟨rfl, trivial⟩ trivial ?_ ?_
    · exact ⟨Nat.zero_le _, rfl⟩
    · rintro k hp4
      obtain ⟨hk1, hk2⟩ := hp4
      refine go tbv19ok 6 rfl rfl trivial ?_
      refine cnd rfl (fun h5 => ?_) (fun h5 => ?_)
      · have p6 := dt h5
        obtain ⟨c7, hc8⟩ := getE (xs := h) (m := k) (by omega)
        have c7_w := Pair.pwf (w.1.2 c7 (List.mem_of_getElem? hc8))
        refine go tbv19ok 7 rfl rfl trivial ?_
        refine q1 (qidx tbv19ok k rfl rfl rfl hc8 rfl rfl rfl rfl) rfl fun w9 => ?_
        refine go tbv19ok 1 rfl rfl trivial ?_
        refine ef (alloc tbv19ok 0 rfl rfl rfl rfl fun b10 => ?_)
        refine go tbv19ok 1 rfl rfl trivial ?_
        refine ef (storeA tbv19ok rfl rfl rfl rfl rfl rfl rfl rfl rfl rfl ?_)
        refine go tbv19ok 3 rfl rfl trivial ?_
        refine any [1, 2, 3, 4, 5, 6] 6 mixd rfl ?_
        refine gov tbv19ok [0, 1, 2] 3 rfl (by kernel_rfl) rfl rfl trivial ?_
        refine vq 3 (lshi tbv19ok k rfl rfl rfl rfl rfl (fun _ => rfl) rfl (by omega)) rfl (by kernel_rfl) rfl fun w11 => ?_
        refine vcall 4 rfl (by kernel_rfl) (r9_Pair _ _) rfl rfl fun w12 => ?_
        have := pairErr_r c7 (h.take k)
        refine gov tbv19ok [5] 0 rfl (by kernel_rfl) rfl rfl trivial ?_
        refine vdone (by kernel_rfl) ?_
        refine go tbv19ok 7 rfl rfl trivial ?_
        refine cnd rfl (fun h13 => ?_) (fun h13 => ?_)
        · have h14 := not_t h13
          have p15 := df h14
          refine go tbv19ok 12 rfl rfl trivial ?_
          refine rt1 rfl rfl ?_
          refine ple ?_
          unfold headE
          rw [if_neg (by omega), hk2, dropE hc8]
          simp only [headGo]
          rw [if_pos (by omega)]
        · have h16 := not_f h13
          have p17 := dt h16
          refine go tbv19ok 7 rfl rfl ⟨(by omega), trivial⟩ ?_
          refine next (k + 1) rfl rfl ⟨rfl, trivial⟩ trivial ?_ ?_
          · omega
          · refine ⟨by omega, ?_⟩
            rw [hk2, dropE hc8, takeE hc8]
            simp only [headGo]
            rw [if_neg (by omega)]
      · have p18 := df h5
        refine go tbv19ok 11 rfl rfl trivial ?_
        refine rt1 rfl rfl ?_
        refine ple ?_
        unfold headE
        rw [if_neg (by omega), hk2, List.drop_of_length_le (by omega)]
        rfl
theorem r9_Same (a : List Pair) (b : List Pair) : Fn Tryz.prog gb 111 [.sl Pair.pc a, .sl Pair.pc b] (.bool (decide (a = b))) := by
  refine fn_cw tbv19ok Tryz.func111 rfl Tryz.ntmps111 rfl cb111 rfl rfl fun w N H hG => ?_
  have a_l : a.length ≤ 140737488355328 := w.1.1
  have b_l : b.length ≤ 140737488355328 := w.2.1.1
  refine go tbv19ok 15 rfl rfl trivial ?_
  refine cnd rfl (fun h1 => ?_) (fun h1 => ?_)
  · have h2 := not_t h1
    have p3 := df h2
    refine go tbv19ok 7 rfl rfl trivial ?_
    refine rt1 rfl rfl ?_
    refine ple ?_
    exact congrArg PV.bool (eqL_len (by assumption)).symm
  · have h4 := not_f h1
    have p5 := dt h4
    refine go tbv19ok 11 rfl rfl trivial ?_
    refine loop (ι := Nat) [0, 1, 6, 7, 8, 9, 10, 11, 12] [] (fun k => [(13, .int .i64 (k : Int))]) (fun k => []) (fun k => k ≤ a.length ∧ decide (a = b) = decide (a.drop k = b.drop k)) (fun k => a.length - k) 0 ⟨rfl, trivial⟩ trivial ?_ ?_
    · exact ⟨Nat.zero_le _, rfl⟩
    · rintro k hp6
      obtain ⟨hk1, hk2⟩ := hp6
      refine go tbv19ok 6 rfl rfl trivial ?_
      refine cnd rfl (fun h7 => ?_) (fun h7 => ?_)
      · have p8 := dt h7
        refine go tbv19ok 11 rfl rfl trivial ?_
        refine any [0, 1, 2, 3, 4, 5] 9 mixd rfl ?_
        refine gov tbv19ok [0, 1] 7 rfl (by kernel_rfl) rfl rfl trivial ?_
        obtain ⟨c9, hc10⟩ := getE (xs := a) (m := k) (by omega)
        have c9_w := Pair.pwf (w.1.2 c9 (List.mem_of_getElem? hc10))
        refine vq 2 (qidx tbv19ok k rfl rfl rfl hc10 rfl rfl rfl rfl) rfl (by kernel_rfl) rfl fun w11 => ?_
        refine gov tbv19ok [3, 4, 5] 3 rfl (by kernel_rfl) rfl rfl trivial ?_
        obtain ⟨c12, hc13⟩ := getE (xs := b) (m := k) (by omega)
        have c12_w := Pair.pwf (w.2.1.2 c12 (List.mem_of_getElem? hc13))
        refine vq 6 (qidx tbv19ok k rfl rfl rfl hc13 rfl rfl rfl rfl) rfl (by kernel_rfl) rfl fun w14 => ?_
        refine gov tbv19ok [7] 1 rfl (by kernel_rfl) rfl rfl trivial ?_
        refine vq 8 (sane rfl rfl eqg139 (veq139 c9 c12)) rfl (by kernel_rfl) rfl fun w15 => ?_
        refine vdone (by kernel_rfl) ?_
        refine go tbv19ok 1 rfl rfl trivial ?_
        refine cnd rfl (fun h16 => ?_) (fun h16 => ?_)
        · have h17 := not_t h16
          have p18 := df h17
          refine go tbv19ok 11 rfl rfl trivial ?_
          refine rt1 rfl rfl ?_
          refine ple ?_
          exact congrArg PV.bool (eqL_miss hk2 (dropE hc10) (dropE hc13) (by assumption)).symm
        · have h19 := not_f h16
          have p20 := dt h19
          refine go tbv19ok 7 rfl rfl ⟨(by omega), trivial⟩ ?_
          refine next (k + 1) rfl rfl ⟨rfl, trivial⟩ trivial ?_ ?_
          · omega
          · exact ⟨by omega, eqL_step hk2 (dropE hc10) (dropE hc13) (by assumption)⟩
      · have p21 := df h7
        refine go tbv19ok 11 rfl rfl trivial ?_
        refine rt1 rfl rfl ?_
        refine ple ?_
        exact congrArg PV.bool (eqL_end hk2 (by omega) (by omega)).symm
end Go.SW.V
set_option linter.unusedVariables false
set_option maxRecDepth 100000
set_option maxHeartbeats 4000000
namespace Go.SW.V
open Go.SW Go.Proofs
theorem cb19 : Callable Tryz.prog 19 := callable_of Tryz.func19 (by kernel_rfl) (by kernel_rfl)
theorem cb27 : Callable Tryz.prog 27 := callable_of Tryz.func27 (by kernel_rfl) (by kernel_rfl)
theorem cb40 : Callable Tryz.prog 40 := callable_of Tryz.func40 (by kernel_rfl) (by kernel_rfl)
theorem cb45 : Callable Tryz.prog 45 := callable_of Tryz.func45 (by kernel_rfl) (by kernel_rfl)
theorem cb50 : Callable Tryz.prog 50 := callable_of Tryz.func50 (by kernel_rfl) (by kernel_rfl)
def tbv20 : Tb := [(5, ⟨.int .u8, 1, 1, [.int .u8 0]⟩),
  (9, ⟨.str, 1, 16, [.str []]⟩),
  (22, ⟨.int .u64, 1, 8, [.int .u64 0]⟩),
  (44, ⟨.agg [(0, 1), (1, 1), (2, 1)], 3, 40, [.str [], .int .u8 0, .str []]⟩),
  (46, ⟨.agg [(0, 1), (1, 1), (2, 1), (3, 1)], 4, 48, [.str [], .int .u64 0, .int .u64 0, .str []]⟩),
  (47, ⟨.slc 139, 1, 24, [.sl Pair.pc []]⟩),
  (49, ⟨.agg [(0, 1), (1, 1), (2, 1), (3, 1), (4, 1), (5, 1)], 6, 88, [.str [], .str [], .bool false, .str [], .sl Pair.pc [], .bool false]⟩),
  (51, ⟨.agg [(0, 1), (1, 1), (2, 1), (3, 1), (4, 1), (5, 1), (6, 1)], 7, 96, [.int .u64 0, .str [], .str [], .sl Pair.pc [], .str [], .int .u64 0, .int .u8 0]⟩),
  (53, ⟨.agg [(0, 1), (1, 1), (2, 3), (5, 4), (9, 6), (15, 1), (16, 1), (17, 1), (18, 1), (19, 1), (20, 1), (21, 7), (28, 1)], 29, 344, [.int .u8 0, .int .u64 0, .str [], .int .u8 0, .str [], .str [], .int .u64 0, .int .u64 0, .str [], .str [], .str [], .bool false, .str [], .sl Pair.pc [], .bool false, .str [], .int .u64 0, .int .u8 0, .int .u8 0, .int .u8 0, .int .u64 0, .int .u64 0, .str [], .str [], .sl Pair.pc [], .str [], .int .u64 0, .int .u8 0, .str []]⟩),
  (60, ⟨.agg [(0, 1), (1, 1), (2, 1), (3, 1), (4, 1), (5, 1)], 6, 88, [.str [], .str [], .bool false, .str [], .sl Pair.pc [], .bool false]⟩),
  (62, ⟨.agg [(0, 1), (1, 1), (2, 3), (5, 4), (9, 6), (15, 1), (16, 1), (17, 1), (18, 1), (19, 1), (20, 1), (21, 7), (28, 1)], 29, 344, [.int .u8 0, .int .u64 0, .str [], .int .u8 0, .str [], .str [], .int .u64 0, .int .u64 0, .str [], .str [], .str [], .bool false, .str [], .sl Pair.pc [], .bool false, .str [], .int .u64 0, .int .u8 0, .int .u8 0, .int .u8 0, .int .u64 0, .int .u64 0, .str [], .str [], .sl Pair.pc [], .str [], .int .u64 0, .int .u8 0, .str []]⟩),
  (139, ⟨.agg [(0, 1), (1, 1), (2, 1), (3, 1)], 4, 48, [.str [], .int .u8 0, .int .i64 0, .str []]⟩)]
theorem tbv20ok : tbB Tryz.prog tbv20 = true := by kernel_rfl
theorem l09_Light (h : List Pair) : Fn Tryz.prog gb 50 [.sl Pair.pc h] (.bool (lightH h)) := by
  refine fn_cw tbv20ok Tryz.func50 rfl Tryz.ntmps50 rfl cb50 rfl rfl fun w N H hG => ?_
  have h_l : h.length ≤ 140737488355328 := w.1.1
  refine go tbv20ok 13 rfl rfl trivial ?_
  refine cnd rfl (fun h1 => ?_) (fun h1 => ?_)
  · have p2 := dt h1
    refine go tbv20ok 7 rfl rfl trivial ?_
    refine rt1 rfl rfl ?_
    refine ple ?_
    exact congrArg PV.bool (by simp [lightH]; omega)
  · have p3 := df h1
    refine go tbv20ok 11 rfl rfl trivial ?_
    refine loop (ι := Nat) [0, 5, 6, 7, 8, 9] [] (fun k => [(10, .int .i64 (k : Int))]) (fun k => []) (fun k => k ≤ h.length ∧ h.all lightP = (h.drop k).all lightP) (fun k => h.length - k) 0 ⟨rfl, trivial⟩ trivial ?_ ?_
    · exact ⟨Nat.zero_le _, rfl⟩
    · rintro k hp4
      obtain ⟨hk1, hk2⟩ := hp4
      refine go tbv20ok 6 rfl rfl trivial ?_
      refine cnd rfl (fun h5 => ?_) (fun h5 => ?_)
      · have p6 := dt h5
        obtain ⟨c7, hc8⟩ := getE (xs := h) (m := k) (by omega)
        have c7_w := Pair.pwf (w.1.2 c7 (List.mem_of_getElem? hc8))
        refine go tbv20ok 6 rfl rfl trivial ?_
        refine q1 (qidx tbv20ok k rfl rfl rfl hc8 rfl rfl rfl rfl) rfl fun w9 => ?_
        refine go tbv20ok 1 rfl rfl trivial ?_
        refine ef (alloc tbv20ok 0 rfl rfl rfl rfl fun b10 => ?_)
        refine ef (storeA tbv20ok rfl rfl rfl rfl rfl rfl rfl rfl rfl rfl ?_)
        refine go tbv20ok 16 rfl rfl ⟨(fun hc => hc), (fun hc => hc), (fun hc => hc), rfl, rfl, trivial⟩ ?_
        refine cnd rfl (fun h11 => ?_) (fun h11 => ?_)
        · refine go tbv20ok 11 rfl rfl trivial ?_
          refine rt1 rfl rfl ?_
          refine ple ?_
          exact congrArg PV.bool (by unfold lightH; rw [all_miss hk2 (dropE hc8) (by simp [lightP]; first | omega | grind)]; simp)
        · have h12 := orl h11
          have p13 := df h12
          have h14 := orr h11
          have p15 := df h14
          refine go tbv20ok 7 rfl rfl ⟨(by omega), trivial⟩ ?_
          refine next (k + 1) rfl rfl ⟨rfl, trivial⟩ trivial ?_ ?_
          · omega
          · exact ⟨by omega, all_step hk2 (dropE hc8) (by simp [lightP]; omega)⟩
      · have p16 := df h5
        refine go tbv20ok 11 rfl rfl trivial ?_
        refine rt1 rfl rfl ?_
        refine ple ?_
        exact congrArg PV.bool (by unfold lightH; rw [all_end hk2 (by omega)]; simp; omega)
theorem l13_Light (m : Mail) : Fn Tryz.prog gb 27 [.agg (Mail.pc m)] (.bool (lightMl m)) := by
  refine fn_cw tbv20ok Tryz.func27 rfl Tryz.ntmps27 rfl cb27 rfl rfl fun w N H hG => ?_
  have m_w := Mail.pwf w.1
  have m_w' := m_w
  simp only [Mail.wf] at m_w'
  have m_head_k := Mail.kd3 w.1
  have m_head_k2 : m.head.length ≤ 140737488355328 := w.1.2.2.2.1.1
  refine go tbv20ok 2 rfl rfl trivial ?_
  refine ef (boxA 0 rfl rfl rfl fun b1 => ?_)
  refine go tbv20ok 18 rfl rfl ⟨(fun hc => hc), (fun hc => hc), (fun hc => hc), rfl, rfl, (fun hc => hc), trivial⟩ ?_
  refine callg rfl (fun hc => (l09_Light _)) rfl ⟨(fun hc => hc), trivial⟩ rfl rfl fun _ => ?_
  refine go tbv20ok 11 rfl rfl ⟨rfl, rfl, (fun hc => hc), (fun hc => hc), (fun hc => hc), rfl, rfl, trivial⟩ ?_
  refine rt1 rfl rfl ?_
  refine ple ?_
  refine congrArg PV.bool ?_
  unfold lightMl
  first | (simp only [*, Bool.and_true, Bool.true_and, Bool.false_and, Bool.and_false, decide_true, decide_false]; done) | (rw [Bool.eq_iff_iff]; simp [and_assoc]; done) | (rw [Bool.eq_iff_iff]; simp; grind)
theorem l22_Light (d : DeedR) : Fn Tryz.prog gb 40 [.agg (DeedR.pc d)] (.bool (lightD d)) := by
  refine fn_cw tbv20ok Tryz.func40 rfl Tryz.ntmps40 rfl cb40 rfl rfl fun w N H hG => ?_
  have d_w := DeedR.pwf w.1
  have d_w' := d_w
  simp only [DeedR.wf, ShopR.wf, QueueR.wf, BindR.wf, Mail.wf] at d_w'
  have d_bind_want_k := DeedR.kd13 w.1
  have d_bind_want_k2 : d.bind.want.length ≤ 140737488355328 := w.1.2.2.2.2.2.2.2.2.2.2.2.2.2.1.1
  have d_mail_head_k := DeedR.kd24 w.1
  have d_mail_head_k2 : d.mail.head.length ≤ 140737488355328 := w.1.2.2.2.2.2.2.2.2.2.2.2.2.2.2.2.2.2.2.2.2.2.2.2.2.1.1
  refine go tbv20ok 2 rfl rfl trivial ?_
  refine ef (boxA 0 rfl rfl rfl fun b1 => ?_)
  refine go tbv20ok 32 rfl rfl trivial ?_
  refine q1 (qmaxN (z := (d.shop.name.length : Int)) (r := (max (max (max (max (max (max (d.shop.name.length : Int) (d.shop.to.length : Int)) (d.queue.name.length : Int)) (d.queue.dead.length : Int)) (d.bind.shop.length : Int)) (d.bind.to.length : Int)) (d.name.length : Int))) [(d.shop.to.length : Int), (d.queue.name.length : Int), (d.queue.dead.length : Int), (d.bind.shop.length : Int), (d.bind.to.length : Int), (d.name.length : Int)] rfl rfl (rg_i64 (by omega))) rfl fun w2 => ?_
  refine go tbv20ok 22 rfl rfl ⟨(fun hc => hc), (fun hc => hc), (fun hc => hc), (fun hc => hc), (fun hc => hc), (fun hc => hc), (fun hc => hc), (fun hc => hc), rfl, rfl, (fun hc => hc), (fun hc => hc), trivial⟩ ?_
  refine callg rfl (fun hc => (l09_Light _)) rfl ⟨(fun hc => hc), trivial⟩ rfl rfl fun _ => ?_
  refine go tbv20ok 4 rfl rfl ⟨rfl, rfl, (fun hc => hc), trivial⟩ ?_
  refine callg rfl (fun hc => (l13_Light _)) rfl ⟨(fun hc => hc), trivial⟩ rfl rfl fun _ => ?_
  refine go tbv20ok 5 rfl rfl ⟨rfl, rfl, trivial⟩ ?_
  refine rt1 rfl rfl ?_
  refine ple ?_
  refine congrArg PV.bool ?_
  unfold lightD
  first | (simp only [*, Bool.and_true, Bool.true_and, Bool.false_and, Bool.and_false, decide_true, decide_false]; done) | (rw [Bool.eq_iff_iff]; simp [and_assoc]; done) | (rw [Bool.eq_iff_iff]; simp; grind)
theorem l14_To (x : BindR) (hl : x.want.length ≤ 1000000) : Fn Tryz.prog gb 45 [.agg (BindR.pc x)] (.agg (BindR.pc x)) := by
  refine fn_cw tbv20ok Tryz.func45 rfl Tryz.ntmps45 rfl cb45 rfl rfl fun w N H hG => ?_
  have x_want_l : x.want.length ≤ 140737488355328 := w.1.2.2.2.2.1.1
  refine go tbv20ok 2 rfl rfl trivial ?_
  refine ef (boxA 0 rfl rfl rfl fun b1 => ?_)
  refine ef (alloc tbv20ok 1 rfl rfl rfl rfl fun b2 => ?_)
  refine go tbv20ok 5 rfl rfl trivial ?_
  refine ef (alloc tbv20ok 2 rfl rfl rfl rfl fun b3 => ?_)
  refine ef (storeA tbv20ok rfl rfl rfl rfl rfl rfl rfl rfl rfl rfl ?_)
  refine go tbv20ok 4 rfl rfl trivial ?_
  refine ef (bsl 3 Pair.pc [] tbv20ok rfl rfl rfl rfl rfl (fun _ => rfl) rfl (by decide) (by decide) rfl fun u4 => ?_)
  refine go tbv20ok 2 rfl rfl trivial ?_
  refine ef (app tbv20ok x.want rfl rfl rfl rfl rfl rfl rfl rfl rfl (src_l rfl (fun _ => rfl)) (by first | omega | (simp; omega)) rfl fun u5 => ?_)
  refine go tbv20ok 1 rfl rfl trivial ?_
  refine give 3 rfl ?_
  refine ef (store1 tbv20ok rfl rfl rfl rfl rfl rfl rfl rfl rfl ?_)
  refine go tbv20ok 5 rfl rfl trivial ?_
  refine ef (storeA tbv20ok rfl rfl rfl rfl rfl rfl rfl rfl rfl rfl ?_)
  refine go tbv20ok 3 rfl rfl trivial ?_
  refine rt1 rfl rfl ?_
  refine ple ?_
  rfl
theorem l22_To (d : DeedR) (hl : d.bind.want.length ≤ 1000000) : Fn Tryz.prog gb 19 [.agg (DeedR.pc d)] (.agg (DeedR.pc d)) := by
  refine fn_cw tbv20ok Tryz.func19 rfl Tryz.ntmps19 rfl cb19 rfl rfl fun w N H hG => ?_
  have d_bind_want_l : d.bind.want.length ≤ 140737488355328 := w.1.2.2.2.2.2.2.2.2.2.2.2.2.2.1.1
  have d_mail_head_l : d.mail.head.length ≤ 140737488355328 := w.1.2.2.2.2.2.2.2.2.2.2.2.2.2.2.2.2.2.2.2.2.2.2.2.2.1.1
  refine go tbv20ok 2 rfl rfl trivial ?_
  refine ef (boxA 0 rfl rfl rfl fun b1 => ?_)
  refine ef (alloc tbv20ok 1 rfl rfl rfl rfl fun b2 => ?_)
  refine go tbv20ok 3 rfl rfl trivial ?_
  refine any [1, 2, 3, 4, 5, 6, 7] 29 mixd rfl ?_
  refine gov tbv20ok [0, 1, 2, 3, 4, 5, 6, 7, 8, 9, 11, 12, 13, 14, 15, 16, 17, 18, 19, 20, 21, 22, 23, 24, 25, 26] 3 rfl (by kernel_rfl) rfl rfl trivial ?_
  refine ve 10 rfl (by kernel_rfl) rfl (ecall (l14_To _ (by first | omega | (have := lightD_len d (by assumption); omega))) rfl rfl fun w3 => ?_)
  refine gov tbv20ok [27] 1 rfl (by kernel_rfl) rfl rfl trivial ?_
  refine vt 28 rfl (by kernel_rfl) (by kernel_rfl) (storeA tbv20ok rfl rfl rfl rfl rfl rfl rfl rfl rfl rfl ?_)
  refine vdone (by kernel_rfl) ?_
  refine go tbv20ok 2 rfl rfl trivial ?_
  refine rt1 rfl rfl ?_
  refine ple ?_
  rfl
end Go.SW.V
