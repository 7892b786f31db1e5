/-
  A part of the proof of MethodReads: The walks of this seat, printed by program: stairwellref09.Read. The walks of this seat, printed by program: stairwellref11.Parse. The walks of this seat, printed by program: stairwelllaw11.awake, stairwelllaw11.MethodFrames, stairwelllaw11.MethodReads. A table of texts that the row lists. Over any program; no condition. Methods by the document: what may be, what is written. Plain laws; each asks what it lists. Methods that are written are read again; what is read is written so. Plain laws; each asks what it lists. The method of any frame, by the document: what is read. Plain laws; each asks what it lists.
-/
import Derived.Test.YtdkpbleeehmhjabGreatDoorProg
import Derived.Test.YtdkpbleeehmhjabGreatDoorMethodReadsP3
import Derived.KernelRfl
import Derived.Test.YtdkpbleeehmhjabGreatDoorMethodReadsP4
import Derived.Test.YtdkpbleeehmhjabGreatDoorMethodReadsP2
set_option linter.unusedVariables false
set_option linter.unusedSimpArgs false
set_option linter.unusedVariables false
set_option maxRecDepth 100000
set_option maxHeartbeats 4000000
namespace Go.SW.V
open Go.SW Go.Proofs
theorem cb56 : Callable Tryz.prog 56 := callable_of Tryz.func56 (by kernel_rfl) (by kernel_rfl)
def tbv65 : Tb := [(2, ⟨.int .i64, 1, 8, [.int .i64 0]⟩),
  (3, ⟨.int .i64, 1, 8, [.int .i64 0]⟩),
  (5, ⟨.int .u8, 1, 1, [.int .u8 0]⟩),
  (9, ⟨.str, 1, 16, [.str []]⟩),
  (25, ⟨.int .u64, 1, 8, [.int .u64 0]⟩),
  (26, ⟨.slc 118, 1, 24, [.sl Pair.pc []]⟩),
  (101, ⟨.agg [(0, 1), (1, 1), (2, 1)], 3, 32, [.str [], .int .i64 0, .int .i64 0]⟩),
  (118, ⟨.agg [(0, 1), (1, 1), (2, 1), (3, 1)], 4, 48, [.str [], .int .u8 0, .int .i64 0, .str []]⟩)]
theorem tbv65ok : tbB Tryz.prog tbv65 = true := by kernel_rfl
theorem r09_Read_ok (i : RIn) (hi : RW i) : Fm Tryz.prog gb 56 [] 101 (RIn.pc i) (.sl Pair.pc ((r09_Read i).1)) (RIn.pc ((r09_Read i).2)) := by
  refine fm_cw tbv65ok Tryz.func56 rfl Tryz.ntmps56 rfl cb56 rfl rfl rfl rfl fun w wp b N H hG => ?_
  have i_s_l : i.s.length ≤ 9223372036854775807 := wp.1
  have i_pos_r : -9223372036854775808 ≤ i.pos ∧ i.pos ≤ 9223372036854775807 := wp.2.1
  have i_code_r : -9223372036854775808 ≤ i.code ∧ i.code ≤ 9223372036854775807 := wp.2.2.1
  have e0 := r09_Read.eq_1 i
  refine go tbv65ok 8 rfl rfl trivial ?_
  refine ef (ecallm (r01_In_Num_ok _ _ (by first | assumption | exact rw_new _ | exact ⟨by (try simp only []); omega, by (try simp only []); omega⟩)) rfl rfl rfl rfl rfl ?_)
  generalize hr2 : r01_In_Num i 1 = r
  intro w1 w1p
  have e3 := e0.trans (lt_eq hr2.symm)
  have hA3 := rw_Num i 1 (by first | assumption | exact rw_new _)
  (try rw [← hr2.symm] at hA3)
  have hA4 := num_le i 1
  (try rw [← hr2.symm] at hA4)
  refine go tbv65ok 11 rfl rfl trivial ?_
  refine cnd rfl (fun h6 => ?_) (fun h6 => ?_)
  · have p7 := dt h6
    have e8 := e3.trans (condT h6)
    refine go tbv65ok 2 rfl rfl trivial ?_
    refine ef (ecallm (r01_In_Fail_ok _ _) rfl rfl rfl rfl rfl ?_)
    generalize hr10 : r01_In_Fail r.2 6 = r1
    intro w9 w9p
    have e11 := e8.trans (lt_eq hr10.symm)
    have hA11 := rw_Fail r.2 6 (by first | assumption | exact rw_new _)
    (try rw [← hr10.symm] at hA11)
    refine go tbv65ok 14 rfl rfl trivial ?_
    refine sw_own (t := 4) (k := 4) (e := 118) 1 Pair.pc rfl rfl ?_
    refine loop (ι := Nat × (List Pair) × Nat × RIn × Value) [0, 2, 3] [] (fun ⟨f, h_1, k, x, u_h_1⟩ => [(4, .osl 1), (5, .int .i64 (k : Int))]) (fun ⟨f, h_1, k, x, u_h_1⟩ => [(1, .arr u_h_1 4 118 Pair.pc h_1), (0, .box b 101 [.str x.s, .int .i64 x.pos, .int .i64 x.code])]) (fun ⟨f, h_1, k, x, u_h_1⟩ => (IntKind.wrap .i64 r.1).toNat - k < f ∧ r09_Read i = r09_Read_l0 r f h_1 k x ∧ h_1.length ≤ k ∧ k ≤ 255 ∧ RW x) (fun ⟨f, h_1, k, x, u_h_1⟩ => f) ⟨((IntKind.wrap .i64 r.1).toNat - 0 + 1), [], 0, r1, (.slice none 0 0)⟩ ⟨rfl, rfl, trivial⟩ ⟨rfl, rfl, trivial⟩ ?_ ?_
    · exact ⟨Nat.lt_succ_self _, e11, ⟨by simp, by omega, by assumption⟩⟩
    · rintro ⟨f, h_1, k, x, u_h_1⟩ ⟨hp13_1, hp13_2, hp13_3⟩
      obtain ⟨hk1, hk2, hk3⟩ := hp13_3
      have hwn := wrapB (m := r.1) (by omega) (by omega)
      obtain ⟨f1, rfl⟩ : ∃ q, f = q + 1 := ⟨f - 1, by omega⟩
      have e_f1 := hp13_2.trans (r09_Read_l0.eq_2 _ _ _ _ _)
      refine go tbv65ok 15 rfl rfl ⟨(fun hc => hc), (fun hc => hc), (fun hc => hc), (fun hc => hc), rfl, rfl, trivial⟩ ?_
      refine cnd rfl (fun h14 => ?_) (fun h14 => ?_)
      · have h15 := bl h14
        have p16 := dt h15
        have h17 := br h14
        have p18 := dt h17
        have e19 := e_f1.trans (condT h14)
        refine go tbv65ok 7 rfl rfl trivial ?_
        refine ef (ecallm (r01_In_Text_ok _ _ (by first | assumption | exact rw_new _ | exact ⟨by (try simp only []); omega, by (try simp only []); omega⟩)) rfl rfl rfl rfl rfl ?_)
        generalize hr21 : r01_In_Text x 16 = r2
        intro w20 w20p
        have e22 := e19.trans (lt_eq hr21.symm)
        have hA22 := rw_Text x 16 (by first | assumption | exact rw_new _)
        (try rw [← hr21.symm] at hA22)
        refine go tbv65ok 1 rfl rfl trivial ?_
        refine ef (alloc tbv65ok 2 rfl rfl rfl rfl fun b24 => ?_)
        refine ef (storeA tbv65ok rfl rfl rfl rfl rfl rfl rfl rfl rfl rfl ?_)
        refine go tbv65ok 5 rfl rfl trivial ?_
        refine ef (ecallm (r01_In_Num_ok _ _ (by first | assumption | exact rw_new _ | exact ⟨by (try simp only []); omega, by (try simp only []); omega⟩)) rfl rfl rfl rfl rfl ?_)
        generalize hr26 : r01_In_Num r2.2 1 = r3
        intro w25 w25p
        have e27 := e22.trans (lt_eq hr26.symm)
        have hA27 := rw_Num r2.2 1 (by first | assumption | exact rw_new _)
        (try rw [← hr26.symm] at hA27)
        have hA28 := num_le r2.2 1
        (try rw [← hr26.symm] at hA28)
        refine go tbv65ok 2 rfl rfl trivial ?_
        refine ef (store1 tbv65ok rfl rfl rfl rfl rfl rfl rfl rfl rfl ?_)
        refine go tbv65ok 10 rfl rfl trivial ?_
        refine cnd rfl (fun h30 => ?_) (fun h30 => ?_)
        · have p31 := dt h30
          have e32 := e27.trans (condT h30)
          refine go tbv65ok 2 rfl rfl trivial ?_
          refine ef (ecallm (r01_In_Num_ok _ _ (by first | assumption | exact rw_new _ | exact ⟨by (try simp only []); omega, by (try simp only []); omega⟩)) rfl rfl rfl rfl rfl ?_)
          generalize hr34 : r01_In_Num r3.2 8 = r4
          intro w33 w33p
          have e35 := e32.trans (lt_eq hr34.symm)
          have hA35 := rw_Num r3.2 8 (by first | assumption | exact rw_new _)
          (try rw [← hr34.symm] at hA35)
          have hA36 := num_le r3.2 8
          (try rw [← hr34.symm] at hA36)
          refine go tbv65ok 2 rfl rfl trivial ?_
          refine ef (store1 tbv65ok rfl rfl rfl rfl rfl rfl rfl rfl rfl ?_)
          refine go tbv65ok 12 rfl rfl trivial ?_
          refine cnd rfl (fun h38 => ?_) (fun h38 => ?_)
          · have p39 := dt h38
            have e40 := e35.trans (condT h38)
            refine go tbv65ok 4 rfl rfl trivial ?_
            refine ef (calll 1 rfl (r9_Pair (⟨r2.1, (IntKind.wrap .u8 r3.1), (IntKind.wrap .i64 r4.1), []⟩ : Pair) _) rfl rfl rfl fun w41 => ?_)
            have := pairErr_r (⟨r2.1, (IntKind.wrap .u8 r3.1), (IntKind.wrap .i64 r4.1), []⟩ : Pair) h_1
            refine ef (ecallm (r01_In_Fail_ok _ _) rfl rfl rfl rfl rfl ?_)
            generalize hr43 : r01_In_Fail r4.2 (pairErr (⟨r2.1, (IntKind.wrap .u8 r3.1), (IntKind.wrap .i64 r4.1), []⟩ : Pair) h_1) = r5
            intro w42 w42p
            have e44 := e40.trans (lt_eq hr43.symm)
            have hA44 := rw_Fail r4.2 (pairErr (⟨r2.1, (IntKind.wrap .u8 r3.1), (IntKind.wrap .i64 r4.1), []⟩ : Pair) h_1) (by first | assumption | exact rw_new _)
            (try rw [← hr43.symm] at hA44)
            refine go tbv65ok 5 rfl rfl trivial ?_
            refine ef (bsl 3 Pair.pc [(⟨r2.1, (IntKind.wrap .u8 r3.1), (IntKind.wrap .i64 r4.1), []⟩ : Pair)] tbv65ok rfl rfl rfl rfl rfl (fun _ => rfl) rfl (by decide) (by decide) rfl fun u46 => ?_)
            refine ef (app tbv65ok [(⟨r2.1, (IntKind.wrap .u8 r3.1), (IntKind.wrap .i64 r4.1), []⟩ : Pair)] rfl rfl rfl rfl rfl rfl rfl rfl rfl (src_o rfl rfl) (by first | omega | (simp; omega)) rfl fun u47 => ?_)
            refine go tbv65ok 9 rfl rfl ⟨(by omega), trivial⟩ ?_
            refine next ⟨f1, (h_1 ++ [(⟨r2.1, (IntKind.wrap .u8 r3.1), (IntKind.wrap .i64 r4.1), []⟩ : Pair)]), (k + 1), r5, (u47)⟩ rfl rfl ⟨rfl, rfl, trivial⟩ ⟨rfl, rfl, trivial⟩ ?_ ?_
            · (try simp only []); omega
            · exact ⟨by (try simp only []); omega, e44, ⟨by (try simp only [List.length_append, List.length_cons, List.length_nil]); omega, by omega, by assumption⟩⟩
          · have p48 := df h38
            have e49 := e35.trans (condF h38)
            refine go tbv65ok 5 rfl rfl trivial ?_
            refine ef (bsl 3 Pair.pc [(⟨r2.1, (IntKind.wrap .u8 r3.1), (IntKind.wrap .i64 r4.1), []⟩ : Pair)] tbv65ok rfl rfl rfl rfl rfl (fun _ => rfl) rfl (by decide) (by decide) rfl fun u50 => ?_)
            refine ef (app tbv65ok [(⟨r2.1, (IntKind.wrap .u8 r3.1), (IntKind.wrap .i64 r4.1), []⟩ : Pair)] rfl rfl rfl rfl rfl rfl rfl rfl rfl (src_o rfl rfl) (by first | omega | (simp; omega)) rfl fun u51 => ?_)
            refine go tbv65ok 9 rfl rfl ⟨(by omega), trivial⟩ ?_
            refine next ⟨f1, (h_1 ++ [(⟨r2.1, (IntKind.wrap .u8 r3.1), (IntKind.wrap .i64 r4.1), []⟩ : Pair)]), (k + 1), r4.2, (u51)⟩ rfl rfl ⟨rfl, rfl, trivial⟩ ⟨rfl, rfl, trivial⟩ ?_ ?_
            · (try simp only []); omega
            · exact ⟨by (try simp only []); omega, e49, ⟨by (try simp only [List.length_append, List.length_cons, List.length_nil]); omega, by omega, by assumption⟩⟩
        · have p52 := df h30
          have e53 := e27.trans (condF h30)
          refine go tbv65ok 7 rfl rfl trivial ?_
          refine cnd rfl (fun h54 => ?_) (fun h54 => ?_)
          · have p55 := dt h54
            have e56 := e53.trans (condT h54)
            refine go tbv65ok 2 rfl rfl trivial ?_
            refine ef (ecallm (r01_In_Text_ok _ _ (by first | assumption | exact rw_new _ | exact ⟨by (try simp only []); omega, by (try simp only []); omega⟩)) rfl rfl rfl rfl rfl ?_)
            generalize hr58 : r01_In_Text r3.2 64 = r6
            intro w57 w57p
            have e59 := e56.trans (lt_eq hr58.symm)
            have hA59 := rw_Text r3.2 64 (by first | assumption | exact rw_new _)
            (try rw [← hr58.symm] at hA59)
            refine go tbv65ok 1 rfl rfl trivial ?_
            refine ef (store1 tbv65ok rfl rfl rfl rfl rfl rfl rfl rfl rfl ?_)
            refine go tbv65ok 12 rfl rfl trivial ?_
            refine cnd rfl (fun h61 => ?_) (fun h61 => ?_)
            · have p62 := dt h61
              have e63 := e59.trans (condT h61)
              refine go tbv65ok 4 rfl rfl trivial ?_
              refine ef (calll 1 rfl (r9_Pair (⟨r2.1, (IntKind.wrap .u8 r3.1), 0, r6.1⟩ : Pair) _) rfl rfl rfl fun w64 => ?_)
              have := pairErr_r (⟨r2.1, (IntKind.wrap .u8 r3.1), 0, r6.1⟩ : Pair) h_1
              refine ef (ecallm (r01_In_Fail_ok _ _) rfl rfl rfl rfl rfl ?_)
              generalize hr66 : r01_In_Fail r6.2 (pairErr (⟨r2.1, (IntKind.wrap .u8 r3.1), 0, r6.1⟩ : Pair) h_1) = r7
              intro w65 w65p
              have e67 := e63.trans (lt_eq hr66.symm)
              have hA67 := rw_Fail r6.2 (pairErr (⟨r2.1, (IntKind.wrap .u8 r3.1), 0, r6.1⟩ : Pair) h_1) (by first | assumption | exact rw_new _)
              (try rw [← hr66.symm] at hA67)
              refine go tbv65ok 5 rfl rfl trivial ?_
              refine ef (bsl 3 Pair.pc [(⟨r2.1, (IntKind.wrap .u8 r3.1), 0, r6.1⟩ : Pair)] tbv65ok rfl rfl rfl rfl rfl (fun _ => rfl) rfl (by decide) (by decide) rfl fun u69 => ?_)
              refine ef (app tbv65ok [(⟨r2.1, (IntKind.wrap .u8 r3.1), 0, r6.1⟩ : Pair)] rfl rfl rfl rfl rfl rfl rfl rfl rfl (src_o rfl rfl) (by first | omega | (simp; omega)) rfl fun u70 => ?_)
              refine go tbv65ok 9 rfl rfl ⟨(by omega), trivial⟩ ?_
              refine next ⟨f1, (h_1 ++ [(⟨r2.1, (IntKind.wrap .u8 r3.1), 0, r6.1⟩ : Pair)]), (k + 1), r7, (u70)⟩ rfl rfl ⟨rfl, rfl, trivial⟩ ⟨rfl, rfl, trivial⟩ ?_ ?_
              · (try simp only []); omega
              · exact ⟨by (try simp only []); omega, e67, ⟨by (try simp only [List.length_append, List.length_cons, List.length_nil]); omega, by omega, by assumption⟩⟩
            · have p71 := df h61
              have e72 := e59.trans (condF h61)
              refine go tbv65ok 5 rfl rfl trivial ?_
              refine ef (bsl 3 Pair.pc [(⟨r2.1, (IntKind.wrap .u8 r3.1), 0, r6.1⟩ : Pair)] tbv65ok rfl rfl rfl rfl rfl (fun _ => rfl) rfl (by decide) (by decide) rfl fun u73 => ?_)
              refine ef (app tbv65ok [(⟨r2.1, (IntKind.wrap .u8 r3.1), 0, r6.1⟩ : Pair)] rfl rfl rfl rfl rfl rfl rfl rfl rfl (src_o rfl rfl) (by first | omega | (simp; omega)) rfl fun u74 => ?_)
              refine go tbv65ok 9 rfl rfl ⟨(by omega), trivial⟩ ?_
              refine next ⟨f1, (h_1 ++ [(⟨r2.1, (IntKind.wrap .u8 r3.1), 0, r6.1⟩ : Pair)]), (k + 1), r6.2, (u74)⟩ rfl rfl ⟨rfl, rfl, trivial⟩ ⟨rfl, rfl, trivial⟩ ?_ ?_
              · (try simp only []); omega
              · exact ⟨by (try simp only []); omega, e72, ⟨by (try simp only [List.length_append, List.length_cons, List.length_nil]); omega, by omega, by assumption⟩⟩
          · have p75 := df h54
            have e76 := e53.trans (condF h54)
            refine go tbv65ok 7 rfl rfl trivial ?_
            refine cnd rfl (fun h77 => ?_) (fun h77 => ?_)
            · have p78 := dt h77
              have e79 := e76.trans (condT h77)
              refine go tbv65ok 2 rfl rfl trivial ?_
              refine ef (ecallm (r01_In_Num_ok _ _ (by first | assumption | exact rw_new _ | exact ⟨by (try simp only []); omega, by (try simp only []); omega⟩)) rfl rfl rfl rfl rfl ?_)
              generalize hr81 : r01_In_Num r3.2 1 = r8
              intro w80 w80p
              have e82 := e79.trans (lt_eq hr81.symm)
              have hA82 := rw_Num r3.2 1 (by first | assumption | exact rw_new _)
              (try rw [← hr81.symm] at hA82)
              have hA83 := num_le r3.2 1
              (try rw [← hr81.symm] at hA83)
              refine go tbv65ok 2 rfl rfl trivial ?_
              refine ef (store1 tbv65ok rfl rfl rfl rfl rfl rfl rfl rfl rfl ?_)
              refine go tbv65ok 12 rfl rfl trivial ?_
              refine cnd rfl (fun h85 => ?_) (fun h85 => ?_)
              · have p86 := dt h85
                have e87 := e82.trans (condT h85)
                refine go tbv65ok 4 rfl rfl trivial ?_
                refine ef (calll 1 rfl (r9_Pair (⟨r2.1, (IntKind.wrap .u8 r3.1), (IntKind.wrap .i64 r8.1), []⟩ : Pair) _) rfl rfl rfl fun w88 => ?_)
                have := pairErr_r (⟨r2.1, (IntKind.wrap .u8 r3.1), (IntKind.wrap .i64 r8.1), []⟩ : Pair) h_1
                refine ef (ecallm (r01_In_Fail_ok _ _) rfl rfl rfl rfl rfl ?_)
                generalize hr90 : r01_In_Fail r8.2 (pairErr (⟨r2.1, (IntKind.wrap .u8 r3.1), (IntKind.wrap .i64 r8.1), []⟩ : Pair) h_1) = r9
                intro w89 w89p
                have e91 := e87.trans (lt_eq hr90.symm)
                have hA91 := rw_Fail r8.2 (pairErr (⟨r2.1, (IntKind.wrap .u8 r3.1), (IntKind.wrap .i64 r8.1), []⟩ : Pair) h_1) (by first | assumption | exact rw_new _)
                (try rw [← hr90.symm] at hA91)
                refine go tbv65ok 5 rfl rfl trivial ?_
                refine ef (bsl 3 Pair.pc [(⟨r2.1, (IntKind.wrap .u8 r3.1), (IntKind.wrap .i64 r8.1), []⟩ : Pair)] tbv65ok rfl rfl rfl rfl rfl (fun _ => rfl) rfl (by decide) (by decide) rfl fun u93 => ?_)
                refine ef (app tbv65ok [(⟨r2.1, (IntKind.wrap .u8 r3.1), (IntKind.wrap .i64 r8.1), []⟩ : Pair)] rfl rfl rfl rfl rfl rfl rfl rfl rfl (src_o rfl rfl) (by first | omega | (simp; omega)) rfl fun u94 => ?_)
                refine go tbv65ok 9 rfl rfl ⟨(by omega), trivial⟩ ?_
                refine next ⟨f1, (h_1 ++ [(⟨r2.1, (IntKind.wrap .u8 r3.1), (IntKind.wrap .i64 r8.1), []⟩ : Pair)]), (k + 1), r9, (u94)⟩ rfl rfl ⟨rfl, rfl, trivial⟩ ⟨rfl, rfl, trivial⟩ ?_ ?_
                · (try simp only []); omega
                · exact ⟨by (try simp only []); omega, e91, ⟨by (try simp only [List.length_append, List.length_cons, List.length_nil]); omega, by omega, by assumption⟩⟩
              · have p95 := df h85
                have e96 := e82.trans (condF h85)
                refine go tbv65ok 5 rfl rfl trivial ?_
                refine ef (bsl 3 Pair.pc [(⟨r2.1, (IntKind.wrap .u8 r3.1), (IntKind.wrap .i64 r8.1), []⟩ : Pair)] tbv65ok rfl rfl rfl rfl rfl (fun _ => rfl) rfl (by decide) (by decide) rfl fun u97 => ?_)
                refine ef (app tbv65ok [(⟨r2.1, (IntKind.wrap .u8 r3.1), (IntKind.wrap .i64 r8.1), []⟩ : Pair)] rfl rfl rfl rfl rfl rfl rfl rfl rfl (src_o rfl rfl) (by first | omega | (simp; omega)) rfl fun u98 => ?_)
                refine go tbv65ok 9 rfl rfl ⟨(by omega), trivial⟩ ?_
                refine next ⟨f1, (h_1 ++ [(⟨r2.1, (IntKind.wrap .u8 r3.1), (IntKind.wrap .i64 r8.1), []⟩ : Pair)]), (k + 1), r8.2, (u98)⟩ rfl rfl ⟨rfl, rfl, trivial⟩ ⟨rfl, rfl, trivial⟩ ?_ ?_
                · (try simp only []); omega
                · exact ⟨by (try simp only []); omega, e96, ⟨by (try simp only [List.length_append, List.length_cons, List.length_nil]); omega, by omega, by assumption⟩⟩
            · have p99 := df h77
              have e100 := e76.trans (condF h77)
              refine go tbv65ok 2 rfl rfl trivial ?_
              refine ef (ecallm (r01_In_Fail_ok _ _) rfl rfl rfl rfl rfl ?_)
              generalize hr102 : r01_In_Fail r3.2 8 = r10
              intro w101 w101p
              have e103 := e100.trans (lt_eq hr102.symm)
              have hA103 := rw_Fail r3.2 8 (by first | assumption | exact rw_new _)
              (try rw [← hr102.symm] at hA103)
              refine go tbv65ok 12 rfl rfl trivial ?_
              refine cnd rfl (fun h105 => ?_) (fun h105 => ?_)
              · have p106 := dt h105
                have e107 := e103.trans (condT h105)
                refine go tbv65ok 4 rfl rfl trivial ?_
                refine ef (calll 1 rfl (r9_Pair (⟨r2.1, (IntKind.wrap .u8 r3.1), 0, []⟩ : Pair) _) rfl rfl rfl fun w108 => ?_)
                have := pairErr_r (⟨r2.1, (IntKind.wrap .u8 r3.1), 0, []⟩ : Pair) h_1
                refine ef (ecallm (r01_In_Fail_ok _ _) rfl rfl rfl rfl rfl ?_)
                generalize hr110 : r01_In_Fail r10 (pairErr (⟨r2.1, (IntKind.wrap .u8 r3.1), 0, []⟩ : Pair) h_1) = r11
                intro w109 w109p
                have e111 := e107.trans (lt_eq hr110.symm)
                have hA111 := rw_Fail r10 (pairErr (⟨r2.1, (IntKind.wrap .u8 r3.1), 0, []⟩ : Pair) h_1) (by first | assumption | exact rw_new _)
                (try rw [← hr110.symm] at hA111)
                refine go tbv65ok 5 rfl rfl trivial ?_
                refine ef (bsl 3 Pair.pc [(⟨r2.1, (IntKind.wrap .u8 r3.1), 0, []⟩ : Pair)] tbv65ok rfl rfl rfl rfl rfl (fun _ => rfl) rfl (by decide) (by decide) rfl fun u113 => ?_)
                refine ef (app tbv65ok [(⟨r2.1, (IntKind.wrap .u8 r3.1), 0, []⟩ : Pair)] rfl rfl rfl rfl rfl rfl rfl rfl rfl (src_o rfl rfl) (by first | omega | (simp; omega)) rfl fun u114 => ?_)
                refine go tbv65ok 9 rfl rfl ⟨(by omega), trivial⟩ ?_
                refine next ⟨f1, (h_1 ++ [(⟨r2.1, (IntKind.wrap .u8 r3.1), 0, []⟩ : Pair)]), (k + 1), r11, (u114)⟩ rfl rfl ⟨rfl, rfl, trivial⟩ ⟨rfl, rfl, trivial⟩ ?_ ?_
                · (try simp only []); omega
                · exact ⟨by (try simp only []); omega, e111, ⟨by (try simp only [List.length_append, List.length_cons, List.length_nil]); omega, by omega, by assumption⟩⟩
              · have p115 := df h105
                have e116 := e103.trans (condF h105)
                refine go tbv65ok 5 rfl rfl trivial ?_
                refine ef (bsl 3 Pair.pc [(⟨r2.1, (IntKind.wrap .u8 r3.1), 0, []⟩ : Pair)] tbv65ok rfl rfl rfl rfl rfl (fun _ => rfl) rfl (by decide) (by decide) rfl fun u117 => ?_)
                refine ef (app tbv65ok [(⟨r2.1, (IntKind.wrap .u8 r3.1), 0, []⟩ : Pair)] rfl rfl rfl rfl rfl rfl rfl rfl rfl (src_o rfl rfl) (by first | omega | (simp; omega)) rfl fun u118 => ?_)
                refine go tbv65ok 9 rfl rfl ⟨(by omega), trivial⟩ ?_
                refine next ⟨f1, (h_1 ++ [(⟨r2.1, (IntKind.wrap .u8 r3.1), 0, []⟩ : Pair)]), (k + 1), r10, (u118)⟩ rfl rfl ⟨rfl, rfl, trivial⟩ ⟨rfl, rfl, trivial⟩ ?_ ?_
                · (try simp only []); omega
                · exact ⟨by (try simp only []); omega, e116, ⟨by (try simp only [List.length_append, List.length_cons, List.length_nil]); omega, by omega, by assumption⟩⟩
      · have e119 := e_f1.trans (condF h14)
        refine go tbv65ok 15 rfl rfl trivial ?_
        refine cnd rfl (fun h120 => ?_) (fun h120 => ?_)
        · have h121 := not_t h120
          have p122 := df h121
          have e123 := e119.trans (condT h120)
          refine go tbv65ok 7 rfl rfl trivial ?_
          exact rm1 rfl rfl (ple_of (fun r : (List Pair) × RIn => .sl Pair.pc r.1) e123 ple_nil) rfl rfl rfl (ples_of (fun r : (List Pair) × RIn => RIn.pc r.2) e123 (ples rfl))
        · have h124 := not_f h120
          have p125 := dt h124
          have e126 := e119.trans (condF h120)
          refine go tbv65ok 8 rfl rfl trivial ?_
          refine givec 1 rfl ?_
          refine go tbv65ok 1 rfl rfl trivial ?_
          exact rm1 rfl rfl (ple_of (fun r : (List Pair) × RIn => .sl Pair.pc r.1) e126 (ple rfl)) rfl rfl rfl (ples_of (fun r : (List Pair) × RIn => RIn.pc r.2) e126 (ples rfl))
  · have p127 := df h6
    have e128 := e3.trans (condF h6)
    refine go tbv65ok 14 rfl rfl trivial ?_
    refine sw_own (t := 4) (k := 4) (e := 118) 1 Pair.pc rfl rfl ?_
    refine loop (ι := Nat × (List Pair) × Nat × RIn × Value) [0, 2, 3] [] (fun ⟨f3, h_2, k1, x1, u_h_2⟩ => [(4, .osl 1), (5, .int .i64 (k1 : Int))]) (fun ⟨f3, h_2, k1, x1, u_h_2⟩ => [(1, .arr u_h_2 4 118 Pair.pc h_2), (0, .box b 101 [.str x1.s, .int .i64 x1.pos, .int .i64 x1.code])]) (fun ⟨f3, h_2, k1, x1, u_h_2⟩ => (IntKind.wrap .i64 r.1).toNat - k1 < f3 ∧ r09_Read i = r09_Read_l1 r f3 h_2 k1 x1 ∧ h_2.length ≤ k1 ∧ k1 ≤ 255 ∧ RW x1) (fun ⟨f3, h_2, k1, x1, u_h_2⟩ => f3) ⟨((IntKind.wrap .i64 r.1).toNat - 0 + 1), [], 0, r.2, (.slice none 0 0)⟩ ⟨rfl, rfl, trivial⟩ ⟨rfl, rfl, trivial⟩ ?_ ?_
    · exact ⟨Nat.lt_succ_self _, e128, ⟨by simp, by omega, by assumption⟩⟩
    · rintro ⟨f3, h_2, k1, x1, u_h_2⟩ ⟨hp129_1, hp129_2, hp129_3⟩
      obtain ⟨hk1, hk2, hk3⟩ := hp129_3
      have hwn := wrapB (m := r.1) (by omega) (by omega)
      obtain ⟨f4, rfl⟩ : ∃ q, f3 = q + 1 := ⟨f3 - 1, by omega⟩
      have e_f4 := hp129_2.trans (r09_Read_l1.eq_2 _ _ _ _ _)
      refine go tbv65ok 15 rfl rfl ⟨(fun hc => hc), (fun hc => hc), (fun hc => hc), (fun hc => hc), rfl, rfl, trivial⟩ ?_
      refine cnd rfl (fun h130 => ?_) (fun h130 => ?_)
      · have h131 := bl h130
        have p132 := dt h131
        have h133 := br h130
        have p134 := dt h133
        have e135 := e_f4.trans (condT h130)
        refine go tbv65ok 7 rfl rfl trivial ?_
        refine ef (ecallm (r01_In_Text_ok _ _ (by first | assumption | exact rw_new _ | exact ⟨by (try simp only []); omega, by (try simp only []); omega⟩)) rfl rfl rfl rfl rfl ?_)
        generalize hr137 : r01_In_Text x1 16 = r12
        intro w136 w136p
        have e138 := e135.trans (lt_eq hr137.symm)
        have hA138 := rw_Text x1 16 (by first | assumption | exact rw_new _)
        (try rw [← hr137.symm] at hA138)
        refine go tbv65ok 1 rfl rfl trivial ?_
        refine ef (alloc tbv65ok 2 rfl rfl rfl rfl fun b140 => ?_)
        refine ef (storeA tbv65ok rfl rfl rfl rfl rfl rfl rfl rfl rfl rfl ?_)
        refine go tbv65ok 5 rfl rfl trivial ?_
        refine ef (ecallm (r01_In_Num_ok _ _ (by first | assumption | exact rw_new _ | exact ⟨by (try simp only []); omega, by (try simp only []); omega⟩)) rfl rfl rfl rfl rfl ?_)
        generalize hr142 : r01_In_Num r12.2 1 = r13
        intro w141 w141p
        have e143 := e138.trans (lt_eq hr142.symm)
        have hA143 := rw_Num r12.2 1 (by first | assumption | exact rw_new _)
        (try rw [← hr142.symm] at hA143)
        have hA144 := num_le r12.2 1
        (try rw [← hr142.symm] at hA144)
        refine go tbv65ok 2 rfl rfl trivial ?_
        refine ef (store1 tbv65ok rfl rfl rfl rfl rfl rfl rfl rfl rfl ?_)
        refine go tbv65ok 10 rfl rfl trivial ?_
        refine cnd rfl (fun h146 => ?_) (fun h146 => ?_)
        · have p147 := dt h146
          have e148 := e143.trans (condT h146)
          refine go tbv65ok 2 rfl rfl trivial ?_
          refine ef (ecallm (r01_In_Num_ok _ _ (by first | assumption | exact rw_new _ | exact ⟨by (try simp only []); omega, by (try simp only []); omega⟩)) rfl rfl rfl rfl rfl ?_)
          generalize hr150 : r01_In_Num r13.2 8 = r14
          intro w149 w149p
          have e151 := e148.trans (lt_eq hr150.symm)
          have hA151 := rw_Num r13.2 8 (by first | assumption | exact rw_new _)
          (try rw [← hr150.symm] at hA151)
          have hA152 := num_le r13.2 8
          (try rw [← hr150.symm] at hA152)
          refine go tbv65ok 2 rfl rfl trivial ?_
          refine ef (store1 tbv65ok rfl rfl rfl rfl rfl rfl rfl rfl rfl ?_)
          refine go tbv65ok 12 rfl rfl trivial ?_
          refine cnd rfl (fun h154 => ?_) (fun h154 => ?_)
          · have p155 := dt h154
            have e156 := e151.trans (condT h154)
            refine go tbv65ok 4 rfl rfl trivial ?_
            refine ef (calll 1 rfl (r9_Pair (⟨r12.1, (IntKind.wrap .u8 r13.1), (IntKind.wrap .i64 r14.1), []⟩ : Pair) _) rfl rfl rfl fun w157 => ?_)
            have := pairErr_r (⟨r12.1, (IntKind.wrap .u8 r13.1), (IntKind.wrap .i64 r14.1), []⟩ : Pair) h_2
            refine ef (ecallm (r01_In_Fail_ok _ _) rfl rfl rfl rfl rfl ?_)
            generalize hr159 : r01_In_Fail r14.2 (pairErr (⟨r12.1, (IntKind.wrap .u8 r13.1), (IntKind.wrap .i64 r14.1), []⟩ : Pair) h_2) = r15
            intro w158 w158p
            have e160 := e156.trans (lt_eq hr159.symm)
            have hA160 := rw_Fail r14.2 (pairErr (⟨r12.1, (IntKind.wrap .u8 r13.1), (IntKind.wrap .i64 r14.1), []⟩ : Pair) h_2) (by first | assumption | exact rw_new _)
            (try rw [← hr159.symm] at hA160)
            refine go tbv65ok 5 rfl rfl trivial ?_
            refine ef (bsl 3 Pair.pc [(⟨r12.1, (IntKind.wrap .u8 r13.1), (IntKind.wrap .i64 r14.1), []⟩ : Pair)] tbv65ok rfl rfl rfl rfl rfl (fun _ => rfl) rfl (by decide) (by decide) rfl fun u162 => ?_)
            refine ef (app tbv65ok [(⟨r12.1, (IntKind.wrap .u8 r13.1), (IntKind.wrap .i64 r14.1), []⟩ : Pair)] rfl rfl rfl rfl rfl rfl rfl rfl rfl (src_o rfl rfl) (by first | omega | (simp; omega)) rfl fun u163 => ?_)
            refine go tbv65ok 9 rfl rfl ⟨(by omega), trivial⟩ ?_
            refine next ⟨f4, (h_2 ++ [(⟨r12.1, (IntKind.wrap .u8 r13.1), (IntKind.wrap .i64 r14.1), []⟩ : Pair)]), (k1 + 1), r15, (u163)⟩ rfl rfl ⟨rfl, rfl, trivial⟩ ⟨rfl, rfl, trivial⟩ ?_ ?_
            · (try simp only []); omega
            · exact ⟨by (try simp only []); omega, e160, ⟨by (try simp only [List.length_append, List.length_cons, List.length_nil]); omega, by omega, by assumption⟩⟩
          · have p164 := df h154
            have e165 := e151.trans (condF h154)
            refine go tbv65ok 5 rfl rfl trivial ?_
            refine ef (bsl 3 Pair.pc [(⟨r12.1, (IntKind.wrap .u8 r13.1), (IntKind.wrap .i64 r14.1), []⟩ : Pair)] tbv65ok rfl rfl rfl rfl rfl (fun _ => rfl) rfl (by decide) (by decide) rfl fun u166 => ?_)
            refine ef (app tbv65ok [(⟨r12.1, (IntKind.wrap .u8 r13.1), (IntKind.wrap .i64 r14.1), []⟩ : Pair)] rfl rfl rfl rfl rfl rfl rfl rfl rfl (src_o rfl rfl) (by first | omega | (simp; omega)) rfl fun u167 => ?_)
            refine go tbv65ok 9 rfl rfl ⟨(by omega), trivial⟩ ?_
            refine next ⟨f4, (h_2 ++ [(⟨r12.1, (IntKind.wrap .u8 r13.1), (IntKind.wrap .i64 r14.1), []⟩ : Pair)]), (k1 + 1), r14.2, (u167)⟩ rfl rfl ⟨rfl, rfl, trivial⟩ ⟨rfl, rfl, trivial⟩ ?_ ?_
            · (try simp only []); omega
            · exact ⟨by (try simp only []); omega, e165, ⟨by (try simp only [List.length_append, List.length_cons, List.length_nil]); omega, by omega, by assumption⟩⟩
        · have p168 := df h146
          have e169 := e143.trans (condF h146)
          refine go tbv65ok 7 rfl rfl trivial ?_
          refine cnd rfl (fun h170 => ?_) (fun h170 => ?_)
          · have p171 := dt h170
            have e172 := e169.trans (condT h170)
            refine go tbv65ok 2 rfl rfl trivial ?_
            refine ef (ecallm (r01_In_Text_ok _ _ (by first | assumption | exact rw_new _ | exact ⟨by (try simp only []); omega, by (try simp only []); omega⟩)) rfl rfl rfl rfl rfl ?_)
            generalize hr174 : r01_In_Text r13.2 64 = r16
            intro w173 w173p
            have e175 := e172.trans (lt_eq hr174.symm)
            have hA175 := rw_Text r13.2 64 (by first | assumption | exact rw_new _)
            (try rw [← hr174.symm] at hA175)
            refine go tbv65ok 1 rfl rfl trivial ?_
            refine ef (store1 tbv65ok rfl rfl rfl rfl rfl rfl rfl rfl rfl ?_)
            refine go tbv65ok 12 rfl rfl trivial ?_
            refine cnd rfl (fun h177 => ?_) (fun h177 => ?_)
            · have p178 := dt h177
              have e179 := e175.trans (condT h177)
              refine go tbv65ok 4 rfl rfl trivial ?_
              refine ef (calll 1 rfl (r9_Pair (⟨r12.1, (IntKind.wrap .u8 r13.1), 0, r16.1⟩ : Pair) _) rfl rfl rfl fun w180 => ?_)
              have := pairErr_r (⟨r12.1, (IntKind.wrap .u8 r13.1), 0, r16.1⟩ : Pair) h_2
              refine ef (ecallm (r01_In_Fail_ok _ _) rfl rfl rfl rfl rfl ?_)
              generalize hr182 : r01_In_Fail r16.2 (pairErr (⟨r12.1, (IntKind.wrap .u8 r13.1), 0, r16.1⟩ : Pair) h_2) = r17
              intro w181 w181p
              have e183 := e179.trans (lt_eq hr182.symm)
              have hA183 := rw_Fail r16.2 (pairErr (⟨r12.1, (IntKind.wrap .u8 r13.1), 0, r16.1⟩ : Pair) h_2) (by first | assumption | exact rw_new _)
              (try rw [← hr182.symm] at hA183)
              refine go tbv65ok 5 rfl rfl trivial ?_
              refine ef (bsl 3 Pair.pc [(⟨r12.1, (IntKind.wrap .u8 r13.1), 0, r16.1⟩ : Pair)] tbv65ok rfl rfl rfl rfl rfl (fun _ => rfl) rfl (by decide) (by decide) rfl fun u185 => ?_)
              refine ef (app tbv65ok [(⟨r12.1, (IntKind.wrap .u8 r13.1), 0, r16.1⟩ : Pair)] rfl rfl rfl rfl rfl rfl rfl rfl rfl (src_o rfl rfl) (by first | omega | (simp; omega)) rfl fun u186 => ?_)
              refine go tbv65ok 9 rfl rfl ⟨(by omega), trivial⟩ ?_
              refine next ⟨f4, (h_2 ++ [(⟨r12.1, (IntKind.wrap .u8 r13.1), 0, r16.1⟩ : Pair)]), (k1 + 1), r17, (u186)⟩ rfl rfl ⟨rfl, rfl, trivial⟩ ⟨rfl, rfl, trivial⟩ ?_ ?_
              · (try simp only []); omega
              · exact ⟨by (try simp only []); omega, e183, ⟨by (try simp only [List.length_append, List.length_cons, List.length_nil]); omega, by omega, by assumption⟩⟩
            · have p187 := df h177
              have e188 := e175.trans (condF h177)
              refine go tbv65ok 5 rfl rfl trivial ?_
              refine ef (bsl 3 Pair.pc [(⟨r12.1, (IntKind.wrap .u8 r13.1), 0, r16.1⟩ : Pair)] tbv65ok rfl rfl rfl rfl rfl (fun _ => rfl) rfl (by decide) (by decide) rfl fun u189 => ?_)
              refine ef (app tbv65ok [(⟨r12.1, (IntKind.wrap .u8 r13.1), 0, r16.1⟩ : Pair)] rfl rfl rfl rfl rfl rfl rfl rfl rfl (src_o rfl rfl) (by first | omega | (simp; omega)) rfl fun u190 => ?_)
              refine go tbv65ok 9 rfl rfl ⟨(by omega), trivial⟩ ?_
              refine next ⟨f4, (h_2 ++ [(⟨r12.1, (IntKind.wrap .u8 r13.1), 0, r16.1⟩ : Pair)]), (k1 + 1), r16.2, (u190)⟩ rfl rfl ⟨rfl, rfl, trivial⟩ ⟨rfl, rfl, trivial⟩ ?_ ?_
              · (try simp only []); omega
              · exact ⟨by (try simp only []); omega, e188, ⟨by (try simp only [List.length_append, List.length_cons, List.length_nil]); omega, by omega, by assumption⟩⟩
          · have p191 := df h170
            have e192 := e169.trans (condF h170)
            refine go tbv65ok 7 rfl rfl trivial ?_
            refine cnd rfl (fun h193 => ?_) (fun h193 => ?_)
            · have p194 := dt h193
              have e195 := e192.trans (condT h193)
              refine go tbv65ok 2 rfl rfl trivial ?_
              refine ef (ecallm (r01_In_Num_ok _ _ (by first | assumption | exact rw_new _ | exact ⟨by (try simp only []); omega, by (try simp only []); omega⟩)) rfl rfl rfl rfl rfl ?_)
              generalize hr197 : r01_In_Num r13.2 1 = r18
              intro w196 w196p
              have e198 := e195.trans (lt_eq hr197.symm)
              have hA198 := rw_Num r13.2 1 (by first | assumption | exact rw_new _)
              (try rw [← hr197.symm] at hA198)
              have hA199 := num_le r13.2 1
              (try rw [← hr197.symm] at hA199)
              refine go tbv65ok 2 rfl rfl trivial ?_
              refine ef (store1 tbv65ok rfl rfl rfl rfl rfl rfl rfl rfl rfl ?_)
              refine go tbv65ok 12 rfl rfl trivial ?_
              refine cnd rfl (fun h201 => ?_) (fun h201 => ?_)
              · have p202 := dt h201
                have e203 := e198.trans (condT h201)
                refine go tbv65ok 4 rfl rfl trivial ?_
                refine ef (calll 1 rfl (r9_Pair (⟨r12.1, (IntKind.wrap .u8 r13.1), (IntKind.wrap .i64 r18.1), []⟩ : Pair) _) rfl rfl rfl fun w204 => ?_)
                have := pairErr_r (⟨r12.1, (IntKind.wrap .u8 r13.1), (IntKind.wrap .i64 r18.1), []⟩ : Pair) h_2
                refine ef (ecallm (r01_In_Fail_ok _ _) rfl rfl rfl rfl rfl ?_)
                generalize hr206 : r01_In_Fail r18.2 (pairErr (⟨r12.1, (IntKind.wrap .u8 r13.1), (IntKind.wrap .i64 r18.1), []⟩ : Pair) h_2) = r19
                intro w205 w205p
                have e207 := e203.trans (lt_eq hr206.symm)
                have hA207 := rw_Fail r18.2 (pairErr (⟨r12.1, (IntKind.wrap .u8 r13.1), (IntKind.wrap .i64 r18.1), []⟩ : Pair) h_2) (by first | assumption | exact rw_new _)
                (try rw [← hr206.symm] at hA207)
                refine go tbv65ok 5 rfl rfl trivial ?_
                refine ef (bsl 3 Pair.pc [(⟨r12.1, (IntKind.wrap .u8 r13.1), (IntKind.wrap .i64 r18.1), []⟩ : Pair)] tbv65ok rfl rfl rfl rfl rfl (fun _ => rfl) rfl (by decide) (by decide) rfl fun u209 => ?_)
                refine ef (app tbv65ok [(⟨r12.1, (IntKind.wrap .u8 r13.1), (IntKind.wrap .i64 r18.1), []⟩ : Pair)] rfl rfl rfl rfl rfl rfl rfl rfl rfl (src_o rfl rfl) (by first | omega | (simp; omega)) rfl fun u210 => ?_)
                refine go tbv65ok 9 rfl rfl ⟨(by omega), trivial⟩ ?_
                refine next ⟨f4, (h_2 ++ [(⟨r12.1, (IntKind.wrap .u8 r13.1), (IntKind.wrap .i64 r18.1), []⟩ : Pair)]), (k1 + 1), r19, (u210)⟩ rfl rfl ⟨rfl, rfl, trivial⟩ ⟨rfl, rfl, trivial⟩ ?_ ?_
                · (try simp only []); omega
                · exact ⟨by (try simp only []); omega, e207, ⟨by (try simp only [List.length_append, List.length_cons, List.length_nil]); omega, by omega, by assumption⟩⟩
              · have p211 := df h201
                have e212 := e198.trans (condF h201)
                refine go tbv65ok 5 rfl rfl trivial ?_
                refine ef (bsl 3 Pair.pc [(⟨r12.1, (IntKind.wrap .u8 r13.1), (IntKind.wrap .i64 r18.1), []⟩ : Pair)] tbv65ok rfl rfl rfl rfl rfl (fun _ => rfl) rfl (by decide) (by decide) rfl fun u213 => ?_)
                refine ef (app tbv65ok [(⟨r12.1, (IntKind.wrap .u8 r13.1), (IntKind.wrap .i64 r18.1), []⟩ : Pair)] rfl rfl rfl rfl rfl rfl rfl rfl rfl (src_o rfl rfl) (by first | omega | (simp; omega)) rfl fun u214 => ?_)
                refine go tbv65ok 9 rfl rfl ⟨(by omega), trivial⟩ ?_
                refine next ⟨f4, (h_2 ++ [(⟨r12.1, (IntKind.wrap .u8 r13.1), (IntKind.wrap .i64 r18.1), []⟩ : Pair)]), (k1 + 1), r18.2, (u214)⟩ rfl rfl ⟨rfl, rfl, trivial⟩ ⟨rfl, rfl, trivial⟩ ?_ ?_
                · (try simp only []); omega
                · exact ⟨by (try simp only []); omega, e212, ⟨by (try simp only [List.length_append, List.length_cons, List.length_nil]); omega, by omega, by assumption⟩⟩
            · have p215 := df h193
              have e216 := e192.trans (condF h193)
              refine go tbv65ok 2 rfl rfl trivial ?_
              refine ef (ecallm (r01_In_Fail_ok _ _) rfl rfl rfl rfl rfl ?_)
              generalize hr218 : r01_In_Fail r13.2 8 = r20
              intro w217 w217p
              have e219 := e216.trans (lt_eq hr218.symm)
              have hA219 := rw_Fail r13.2 8 (by first | assumption | exact rw_new _)
              (try rw [← hr218.symm] at hA219)
              refine go tbv65ok 12 rfl rfl trivial ?_
              refine cnd rfl (fun h221 => ?_) (fun h221 => ?_)
              · have p222 := dt h221
                have e223 := e219.trans (condT h221)
                refine go tbv65ok 4 rfl rfl trivial ?_
                refine ef (calll 1 rfl (r9_Pair (⟨r12.1, (IntKind.wrap .u8 r13.1), 0, []⟩ : Pair) _) rfl rfl rfl fun w224 => ?_)
                have := pairErr_r (⟨r12.1, (IntKind.wrap .u8 r13.1), 0, []⟩ : Pair) h_2
                refine ef (ecallm (r01_In_Fail_ok _ _) rfl rfl rfl rfl rfl ?_)
                generalize hr226 : r01_In_Fail r20 (pairErr (⟨r12.1, (IntKind.wrap .u8 r13.1), 0, []⟩ : Pair) h_2) = r21
                intro w225 w225p
                have e227 := e223.trans (lt_eq hr226.symm)
                have hA227 := rw_Fail r20 (pairErr (⟨r12.1, (IntKind.wrap .u8 r13.1), 0, []⟩ : Pair) h_2) (by first | assumption | exact rw_new _)
                (try rw [← hr226.symm] at hA227)
                refine go tbv65ok 5 rfl rfl trivial ?_
                refine ef (bsl 3 Pair.pc [(⟨r12.1, (IntKind.wrap .u8 r13.1), 0, []⟩ : Pair)] tbv65ok rfl rfl rfl rfl rfl (fun _ => rfl) rfl (by decide) (by decide) rfl fun u229 => ?_)
                refine ef (app tbv65ok [(⟨r12.1, (IntKind.wrap .u8 r13.1), 0, []⟩ : Pair)] rfl rfl rfl rfl rfl rfl rfl rfl rfl (src_o rfl rfl) (by first | omega | (simp; omega)) rfl fun u230 => ?_)
                refine go tbv65ok 9 rfl rfl ⟨(by omega), trivial⟩ ?_
                refine next ⟨f4, (h_2 ++ [(⟨r12.1, (IntKind.wrap .u8 r13.1), 0, []⟩ : Pair)]), (k1 + 1), r21, (u230)⟩ rfl rfl ⟨rfl, rfl, trivial⟩ ⟨rfl, rfl, trivial⟩ ?_ ?_
                · (try simp only []); omega
                · exact ⟨by (try simp only []); omega, e227, ⟨by (try simp only [List.length_append, List.length_cons, List.length_nil]); omega, by omega, by assumption⟩⟩
              · have p231 := df h221
                have e232 := e219.trans (condF h221)
                refine go tbv65ok 5 rfl rfl trivial ?_
                refine ef (bsl 3 Pair.pc [(⟨r12.1, (IntKind.wrap .u8 r13.1), 0, []⟩ : Pair)] tbv65ok rfl rfl rfl rfl rfl (fun _ => rfl) rfl (by decide) (by decide) rfl fun u233 => ?_)
                refine ef (app tbv65ok [(⟨r12.1, (IntKind.wrap .u8 r13.1), 0, []⟩ : Pair)] rfl rfl rfl rfl rfl rfl rfl rfl rfl (src_o rfl rfl) (by first | omega | (simp; omega)) rfl fun u234 => ?_)
                refine go tbv65ok 9 rfl rfl ⟨(by omega), trivial⟩ ?_
                refine next ⟨f4, (h_2 ++ [(⟨r12.1, (IntKind.wrap .u8 r13.1), 0, []⟩ : Pair)]), (k1 + 1), r20, (u234)⟩ rfl rfl ⟨rfl, rfl, trivial⟩ ⟨rfl, rfl, trivial⟩ ?_ ?_
                · (try simp only []); omega
                · exact ⟨by (try simp only []); omega, e232, ⟨by (try simp only [List.length_append, List.length_cons, List.length_nil]); omega, by omega, by assumption⟩⟩
      · have e235 := e_f4.trans (condF h130)
        refine go tbv65ok 15 rfl rfl trivial ?_
        refine cnd rfl (fun h236 => ?_) (fun h236 => ?_)
        · have h237 := not_t h236
          have p238 := df h237
          have e239 := e235.trans (condT h236)
          refine go tbv65ok 7 rfl rfl trivial ?_
          exact rm1 rfl rfl (ple_of (fun r : (List Pair) × RIn => .sl Pair.pc r.1) e239 ple_nil) rfl rfl rfl (ples_of (fun r : (List Pair) × RIn => RIn.pc r.2) e239 (ples rfl))
        · have h240 := not_f h236
          have p241 := dt h240
          have e242 := e235.trans (condF h236)
          refine go tbv65ok 8 rfl rfl trivial ?_
          refine givec 1 rfl ?_
          refine go tbv65ok 1 rfl rfl trivial ?_
          exact rm1 rfl rfl (ple_of (fun r : (List Pair) × RIn => .sl Pair.pc r.1) e242 (ple rfl)) rfl rfl rfl (ples_of (fun r : (List Pair) × RIn => RIn.pc r.2) e242 (ples rfl))
end Go.SW.V
set_option linter.unusedVariables false
set_option maxRecDepth 100000
set_option maxHeartbeats 4000000
namespace Go.SW.V
open Go.SW Go.Proofs
theorem cb20 : Callable Tryz.prog 20 := callable_of Tryz.func20 (by kernel_rfl) (by kernel_rfl)
def tbv66 : Tb := [(4, ⟨.bool, 1, 1, [.bool false]⟩),
  (5, ⟨.int .u8, 1, 1, [.int .u8 0]⟩),
  (9, ⟨.str, 1, 16, [.str []]⟩),
  (25, ⟨.int .u64, 1, 8, [.int .u64 0]⟩),
  (26, ⟨.slc 118, 1, 24, [.sl Pair.pc []]⟩),
  (57, ⟨.agg [(0, 1), (1, 1), (2, 1), (3, 1), (4, 1), (5, 1), (6, 1), (7, 1), (8, 1), (9, 1)], 10, 120, [.int .u8 0, .int .u8 0, .str [], .str [], .str [], .sl Pair.pc [], .str [], .int .u64 0, .int .u64 0, .bool false]⟩),
  (60, ⟨.agg [(0, 1), (1, 1), (2, 1)], 3, 24, [.int .u8 0, .int .u8 0, .str []]⟩),
  (97, ⟨.agg [(0, 1), (1, 1), (2, 1), (3, 1), (4, 1), (5, 1), (6, 1), (7, 1), (8, 1), (9, 1)], 10, 10, [.bool false, .bool false, .bool false, .bool false, .bool false, .bool false, .bool false, .bool false, .bool false, .bool false]⟩),
  (101, ⟨.agg [(0, 1), (1, 1), (2, 1)], 3, 32, [.str [], .int .i64 0, .int .i64 0]⟩)]
theorem tbv66ok : tbB Tryz.prog tbv66 = true := by kernel_rfl
theorem r11_Parse_ok (f : Frame) : Fn Tryz.prog gb 20 [.agg (Frame.pc f)] (.tup [.agg (Method.pc ((r11_Parse f).1)), .int .i64 ((r11_Parse f).2)]) := by
  refine fn_cw tbv66ok Tryz.func20 rfl Tryz.ntmps20 rfl cb20 rfl rfl fun w N H hG => ?_
  have e0 := r11_Parse.eq_1 f
  refine go tbv66ok 2 rfl rfl trivial ?_
  refine ef (boxA 0 rfl rfl rfl fun b1 => ?_)
  refine ef (alloc tbv66ok 1 rfl rfl rfl rfl fun b2 => ?_)
  refine go tbv66ok 11 rfl rfl trivial ?_
  refine cnd rfl (fun h3 => ?_) (fun h3 => ?_)
  · have p4 := dt h3
    have e5 := e0.trans (condT h3)
    refine go tbv66ok 3 rfl rfl trivial ?_
    refine ef (storeA tbv66ok rfl rfl rfl rfl rfl rfl rfl rfl rfl rfl ?_)
    refine go tbv66ok 5 rfl rfl trivial ?_
    exact rt2 rfl rfl (ple_of (fun r : Method × Int => .tup [.agg (Method.pc r.1), .int .i64 r.2]) e5 (ple rfl))
  · have p6 := df h3
    have e7 := e0.trans (condF h3)
    refine go tbv66ok 6 rfl rfl trivial ?_
    refine callv (r11_Of f.kind) (fun r : HasR => .agg (HasR.pc r)) (r11_Of_ok _) rfl rfl fun r hr8 w9 => ?_
    have e10 := e7.trans (lt_eq hr8)
    refine ef (alloc tbv66ok 2 rfl rfl rfl rfl fun b11 => ?_)
    refine ef (storeA tbv66ok rfl rfl rfl rfl rfl rfl rfl rfl rfl rfl ?_)
    refine go tbv66ok 9 rfl rfl trivial ?_
    refine ef (alloc tbv66ok 3 rfl rfl rfl rfl fun b12 => ?_)
    refine ef (storeA tbv66ok rfl rfl rfl rfl rfl rfl rfl rfl rfl rfl ?_)
    refine go tbv66ok 7 rfl rfl trivial ?_
    refine ef (boxA 4 rfl rfl rfl fun b13 => ?_)
    refine go tbv66ok 4 rfl rfl trivial ?_
    obtain ⟨o, e_o, q_o⟩ := lt2_split e10
    refine joinc (ι := Method × RIn) [2, 3, 4, 5, 6] [0, 1, 2] (fun ⟨x, x1⟩ => []) (fun ⟨x, x1⟩ => [(3, .box b12 57 [.int .u8 x.channel, .int .u8 x.kind, .str x.name, .str x.other, .str x.key, .sl Pair.pc x.head, .str x.body, .int .u64 x.n, .int .u64 x.m, .bool x.yes]), (4, .box b13 101 [.str x1.s, .int .i64 x1.pos, .int .i64 x1.code])]) (fun ⟨x, x1⟩ => o = (x, x1) ∧ RW x1) ?_ ?_
    · refine go tbv66ok 6 rfl rfl trivial ?_
      refine cnd rfl (fun h14 => ?_) (fun h14 => ?_)
      · have e15 := e_o.trans (condT h14)
        refine go tbv66ok 2 rfl rfl trivial ?_
        refine ef (ecallm (r01_In_Text_ok (⟨f.body, 0, 0⟩ : RIn) _ (by first | assumption | exact rw_new _ | exact ⟨by (try simp only []); omega, by (try simp only []); omega⟩)) rfl rfl rfl rfl rfl ?_)
        generalize hr17 : r01_In_Text (⟨f.body, 0, 0⟩ : RIn) 16 = r1
        intro w16 w16p
        have e18 := e15.trans (lt_eq hr17.symm)
        have hA18 := rw_Text (⟨f.body, 0, 0⟩ : RIn) 16 (by first | assumption | exact rw_new _)
        (try rw [← hr17.symm] at hA18)
        refine go tbv66ok 1 rfl rfl trivial ?_
        refine ef (store1 tbv66ok rfl rfl rfl rfl rfl rfl rfl rfl rfl ?_)
        refine go tbv66ok 1 rfl rfl trivial ?_
        refine next ⟨(⟨f.channel, f.kind, r1.1, [], [], [], [], 0, 0, false⟩ : Method), r1.2⟩ rfl rfl trivial ⟨rfl, rfl, trivial⟩ (by decide) ?_
        exact ⟨e18, (by first | assumption | exact rw_new _)⟩
      · have e20 := e_o.trans (condF h14)
        refine go tbv66ok 1 rfl rfl trivial ?_
        refine next ⟨(⟨f.channel, f.kind, [], [], [], [], [], 0, 0, false⟩ : Method), (⟨f.body, 0, 0⟩ : RIn)⟩ rfl rfl trivial ⟨rfl, rfl, trivial⟩ (by decide) ?_
        exact ⟨e20, (by first | assumption | exact rw_new _)⟩
    · rintro ⟨x, x1⟩ ⟨hp21, hp21_3⟩
      have e22 := lt2_fin q_o hp21
      refine go tbv66ok 2 rfl rfl trivial ?_
      obtain ⟨o1, e_o1, q_o1⟩ := lt2_split e22
      refine joinc (ι := Method × RIn) [2, 3, 4, 5, 6] [0, 1, 2] (fun ⟨x2, x3⟩ => []) (fun ⟨x2, x3⟩ => [(3, .box b12 57 [.int .u8 x2.channel, .int .u8 x2.kind, .str x2.name, .str x2.other, .str x2.key, .sl Pair.pc x2.head, .str x2.body, .int .u64 x2.n, .int .u64 x2.m, .bool x2.yes]), (4, .box b13 101 [.str x3.s, .int .i64 x3.pos, .int .i64 x3.code])]) (fun ⟨x2, x3⟩ => o1 = (x2, x3) ∧ RW x3) ?_ ?_
      · refine go tbv66ok 11 rfl rfl ⟨(fun hc => hc), rfl, rfl, trivial⟩ ?_
        refine cnd rfl (fun h23 => ?_) (fun h23 => ?_)
        · have h24 := bl h23
          have h25 := not_t h24
          have h26 := br h23
          have e27 := e_o1.trans (condT h23)
          refine go tbv66ok 2 rfl rfl trivial ?_
          refine ef (ecallm (r01_In_Num_ok _ _ (by first | assumption | exact rw_new _ | exact ⟨by (try simp only []); omega, by (try simp only []); omega⟩)) rfl rfl rfl rfl rfl ?_)
          generalize hr29 : r01_In_Num x1 8 = r2
          intro w28 w28p
          have e30 := e27.trans (lt_eq hr29.symm)
          have hA30 := rw_Num x1 8 (by first | assumption | exact rw_new _)
          (try rw [← hr29.symm] at hA30)
          have hA31 := num_le x1 8
          (try rw [← hr29.symm] at hA31)
          refine go tbv66ok 1 rfl rfl trivial ?_
          refine ef (store1 tbv66ok rfl rfl rfl rfl rfl rfl rfl rfl rfl ?_)
          refine go tbv66ok 1 rfl rfl trivial ?_
          refine next ⟨(⟨x.channel, x.kind, x.name, x.other, x.key, x.head, x.body, r2.1, x.m, x.yes⟩ : Method), r2.2⟩ rfl rfl trivial ⟨rfl, rfl, trivial⟩ (by decide) ?_
          exact ⟨e30, (by first | assumption | exact rw_new _)⟩
        · have e33 := e_o1.trans (condF h23)
          refine go tbv66ok 1 rfl rfl trivial ?_
          refine next ⟨x, x1⟩ rfl rfl trivial ⟨rfl, rfl, trivial⟩ (by decide) ?_
          exact ⟨e33, (by first | assumption | exact rw_new _)⟩
      · rintro ⟨x2, x3⟩ ⟨hp34, hp34_3⟩
        have e35 := lt2_fin q_o1 hp34
        refine go tbv66ok 2 rfl rfl trivial ?_
        obtain ⟨o2, e_o2, q_o2⟩ := lt2_split e35
        refine joinc (ι := Method × RIn) [2, 3, 4, 5, 6] [0, 1, 2] (fun ⟨x4, x5⟩ => []) (fun ⟨x4, x5⟩ => [(3, .box b12 57 [.int .u8 x4.channel, .int .u8 x4.kind, .str x4.name, .str x4.other, .str x4.key, .sl Pair.pc x4.head, .str x4.body, .int .u64 x4.n, .int .u64 x4.m, .bool x4.yes]), (4, .box b13 101 [.str x5.s, .int .i64 x5.pos, .int .i64 x5.code])]) (fun ⟨x4, x5⟩ => o2 = (x4, x5) ∧ RW x5) ?_ ?_
        · refine go tbv66ok 11 rfl rfl ⟨(fun hc => hc), rfl, rfl, trivial⟩ ?_
          refine cnd rfl (fun h36 => ?_) (fun h36 => ?_)
          · have h37 := bl h36
            have h38 := not_t h37
            have h39 := br h36
            have e40 := e_o2.trans (condT h36)
            refine go tbv66ok 2 rfl rfl trivial ?_
            refine ef (ecallm (r01_In_Num_ok _ _ (by first | assumption | exact rw_new _ | exact ⟨by (try simp only []); omega, by (try simp only []); omega⟩)) rfl rfl rfl rfl rfl ?_)
            generalize hr42 : r01_In_Num x3 8 = r3
            intro w41 w41p
            have e43 := e40.trans (lt_eq hr42.symm)
            have hA43 := rw_Num x3 8 (by first | assumption | exact rw_new _)
            (try rw [← hr42.symm] at hA43)
            have hA44 := num_le x3 8
            (try rw [← hr42.symm] at hA44)
            refine go tbv66ok 1 rfl rfl trivial ?_
            refine ef (store1 tbv66ok rfl rfl rfl rfl rfl rfl rfl rfl rfl ?_)
            refine go tbv66ok 1 rfl rfl trivial ?_
            refine next ⟨(⟨x2.channel, x2.kind, x2.name, x2.other, x2.key, x2.head, x2.body, x2.n, r3.1, x2.yes⟩ : Method), r3.2⟩ rfl rfl trivial ⟨rfl, rfl, trivial⟩ (by decide) ?_
            exact ⟨e43, (by first | assumption | exact rw_new _)⟩
          · have e46 := e_o2.trans (condF h36)
            refine go tbv66ok 1 rfl rfl trivial ?_
            refine next ⟨x2, x3⟩ rfl rfl trivial ⟨rfl, rfl, trivial⟩ (by decide) ?_
            exact ⟨e46, (by first | assumption | exact rw_new _)⟩
        · rintro ⟨x4, x5⟩ ⟨hp47, hp47_3⟩
          have e48 := lt2_fin q_o2 hp47
          refine go tbv66ok 2 rfl rfl trivial ?_
          obtain ⟨o3, e_o3, q_o3⟩ := lt2_split e48
          refine joinc (ι := Method × RIn) [2, 3, 4, 5, 6] [0, 1, 2] (fun ⟨x6, x7⟩ => []) (fun ⟨x6, x7⟩ => [(3, .box b12 57 [.int .u8 x6.channel, .int .u8 x6.kind, .str x6.name, .str x6.other, .str x6.key, .sl Pair.pc x6.head, .str x6.body, .int .u64 x6.n, .int .u64 x6.m, .bool x6.yes]), (4, .box b13 101 [.str x7.s, .int .i64 x7.pos, .int .i64 x7.code])]) (fun ⟨x6, x7⟩ => o3 = (x6, x7) ∧ RW x7) ?_ ?_
          · refine go tbv66ok 6 rfl rfl trivial ?_
            refine cnd rfl (fun h49 => ?_) (fun h49 => ?_)
            · have e50 := e_o3.trans (condT h49)
              refine go tbv66ok 2 rfl rfl trivial ?_
              refine ef (ecallm (r01_In_Text_ok _ _ (by first | assumption | exact rw_new _ | exact ⟨by (try simp only []); omega, by (try simp only []); omega⟩)) rfl rfl rfl rfl rfl ?_)
              generalize hr52 : r01_In_Text x5 16 = r4
              intro w51 w51p
              have e53 := e50.trans (lt_eq hr52.symm)
              have hA53 := rw_Text x5 16 (by first | assumption | exact rw_new _)
              (try rw [← hr52.symm] at hA53)
              refine go tbv66ok 1 rfl rfl trivial ?_
              refine ef (store1 tbv66ok rfl rfl rfl rfl rfl rfl rfl rfl rfl ?_)
              refine go tbv66ok 1 rfl rfl trivial ?_
              refine next ⟨(⟨x4.channel, x4.kind, x4.name, r4.1, x4.key, x4.head, x4.body, x4.n, x4.m, x4.yes⟩ : Method), r4.2⟩ rfl rfl trivial ⟨rfl, rfl, trivial⟩ (by decide) ?_
              exact ⟨e53, (by first | assumption | exact rw_new _)⟩
            · have e55 := e_o3.trans (condF h49)
              refine go tbv66ok 1 rfl rfl trivial ?_
              refine next ⟨x4, x5⟩ rfl rfl trivial ⟨rfl, rfl, trivial⟩ (by decide) ?_
              exact ⟨e55, (by first | assumption | exact rw_new _)⟩
          · rintro ⟨x6, x7⟩ ⟨hp56, hp56_3⟩
            have e57 := lt2_fin q_o3 hp56
            refine go tbv66ok 2 rfl rfl trivial ?_
            obtain ⟨o4, e_o4, q_o4⟩ := lt2_split e57
            refine joinc (ι := Method × RIn) [2, 3, 4, 5, 6] [0, 1, 2] (fun ⟨x8, x9⟩ => []) (fun ⟨x8, x9⟩ => [(3, .box b12 57 [.int .u8 x8.channel, .int .u8 x8.kind, .str x8.name, .str x8.other, .str x8.key, .sl Pair.pc x8.head, .str x8.body, .int .u64 x8.n, .int .u64 x8.m, .bool x8.yes]), (4, .box b13 101 [.str x9.s, .int .i64 x9.pos, .int .i64 x9.code])]) (fun ⟨x8, x9⟩ => o4 = (x8, x9) ∧ RW x9) ?_ ?_
            · refine go tbv66ok 6 rfl rfl trivial ?_
              refine cnd rfl (fun h58 => ?_) (fun h58 => ?_)
              · have e59 := e_o4.trans (condT h58)
                refine go tbv66ok 3 rfl rfl trivial ?_
                refine ef (ecallm (r01_In_Text_ok _ _ (by first | assumption | exact rw_new _ | exact ⟨by (try simp only []); omega, by (try simp only []); omega⟩)) rfl rfl rfl rfl rfl ?_)
                generalize hr61 : r01_In_Text x7 64 = r5
                intro w60 w60p
                have e62 := e59.trans (lt_eq hr61.symm)
                have hA62 := rw_Text x7 64 (by first | assumption | exact rw_new _)
                (try rw [← hr61.symm] at hA62)
                refine go tbv66ok 1 rfl rfl trivial ?_
                refine ef (store1 tbv66ok rfl rfl rfl rfl rfl rfl rfl rfl rfl ?_)
                refine go tbv66ok 4 rfl rfl trivial ?_
                refine ef (ecallm (r09_Read_ok _ (by first | assumption | exact rw_new _ | exact ⟨by (try simp only []); omega, by (try simp only []); omega⟩)) rfl rfl rfl rfl rfl ?_)
                generalize hr65 : r09_Read r5.2 = r6
                intro w64 w64p
                have e66 := e62.trans (lt_eq hr65.symm)
                have hA66 := rw_Read r5.2 (by first | assumption | exact rw_new _)
                (try rw [← hr65.symm] at hA66)
                refine go tbv66ok 1 rfl rfl trivial ?_
                refine ef (store1 tbv66ok rfl rfl rfl rfl rfl rfl rfl rfl rfl ?_)
                refine go tbv66ok 1 rfl rfl trivial ?_
                refine next ⟨(⟨x6.channel, x6.kind, x6.name, x6.other, r5.1, r6.1, x6.body, x6.n, x6.m, x6.yes⟩ : Method), r6.2⟩ rfl rfl trivial ⟨rfl, rfl, trivial⟩ (by decide) ?_
                exact ⟨e66, (by first | assumption | exact rw_new _)⟩
              · have e68 := e_o4.trans (condF h58)
                refine go tbv66ok 1 rfl rfl trivial ?_
                refine next ⟨x6, x7⟩ rfl rfl trivial ⟨rfl, rfl, trivial⟩ (by decide) ?_
                exact ⟨e68, (by first | assumption | exact rw_new _)⟩
            · rintro ⟨x8, x9⟩ ⟨hp69, hp69_3⟩
              have e70 := lt2_fin q_o4 hp69
              refine go tbv66ok 2 rfl rfl trivial ?_
              obtain ⟨o5, e_o5, q_o5⟩ := lt2_split e70
              refine joinc (ι := Method × RIn) [2, 3, 4, 5, 6] [0, 1, 2] (fun ⟨x10, x11⟩ => []) (fun ⟨x10, x11⟩ => [(3, .box b12 57 [.int .u8 x10.channel, .int .u8 x10.kind, .str x10.name, .str x10.other, .str x10.key, .sl Pair.pc x10.head, .str x10.body, .int .u64 x10.n, .int .u64 x10.m, .bool x10.yes]), (4, .box b13 101 [.str x11.s, .int .i64 x11.pos, .int .i64 x11.code])]) (fun ⟨x10, x11⟩ => o5 = (x10, x11) ∧ RW x11) ?_ ?_
              · refine go tbv66ok 6 rfl rfl trivial ?_
                refine cnd rfl (fun h71 => ?_) (fun h71 => ?_)
                · have e72 := e_o5.trans (condT h71)
                  refine go tbv66ok 3 rfl rfl trivial ?_
                  refine ef (ecallm (r01_In_Num_ok _ _ (by first | assumption | exact rw_new _ | exact ⟨by (try simp only []); omega, by (try simp only []); omega⟩)) rfl rfl rfl rfl rfl ?_)
                  generalize hr74 : r01_In_Num x9 8 = r7
                  intro w73 w73p
                  have e75 := e72.trans (lt_eq hr74.symm)
                  have hA75 := rw_Num x9 8 (by first | assumption | exact rw_new _)
                  (try rw [← hr74.symm] at hA75)
                  have hA76 := num_le x9 8
                  (try rw [← hr74.symm] at hA76)
                  refine go tbv66ok 1 rfl rfl trivial ?_
                  refine ef (store1 tbv66ok rfl rfl rfl rfl rfl rfl rfl rfl rfl ?_)
                  refine go tbv66ok 4 rfl rfl trivial ?_
                  refine ef (ecallm (r01_In_Text_ok _ _ (by first | assumption | exact rw_new _ | exact ⟨by (try simp only []); omega, by (try simp only []); omega⟩)) rfl rfl rfl rfl rfl ?_)
                  generalize hr79 : r01_In_Text r7.2 256 = r8
                  intro w78 w78p
                  have e80 := e75.trans (lt_eq hr79.symm)
                  have hA80 := rw_Text r7.2 256 (by first | assumption | exact rw_new _)
                  (try rw [← hr79.symm] at hA80)
                  refine go tbv66ok 1 rfl rfl trivial ?_
                  refine ef (store1 tbv66ok rfl rfl rfl rfl rfl rfl rfl rfl rfl ?_)
                  refine go tbv66ok 1 rfl rfl trivial ?_
                  refine next ⟨(⟨x8.channel, x8.kind, x8.name, x8.other, x8.key, x8.head, r8.1, x8.n, r7.1, x8.yes⟩ : Method), r8.2⟩ rfl rfl trivial ⟨rfl, rfl, trivial⟩ (by decide) ?_
                  exact ⟨e80, (by first | assumption | exact rw_new _)⟩
                · have e82 := e_o5.trans (condF h71)
                  refine go tbv66ok 1 rfl rfl trivial ?_
                  refine next ⟨x8, x9⟩ rfl rfl trivial ⟨rfl, rfl, trivial⟩ (by decide) ?_
                  exact ⟨e82, (by first | assumption | exact rw_new _)⟩
              · rintro ⟨x10, x11⟩ ⟨hp83, hp83_3⟩
                have e84 := lt2_fin q_o5 hp83
                refine go tbv66ok 2 rfl rfl trivial ?_
                obtain ⟨o6, e_o6, q_o6⟩ := lt2_split e84
                refine joinc (ι := Method × RIn) [2, 3, 5, 6] [0, 1, 2] (fun ⟨x12, x13⟩ => []) (fun ⟨x12, x13⟩ => [(3, .box b12 57 [.int .u8 x12.channel, .int .u8 x12.kind, .str x12.name, .str x12.other, .str x12.key, .sl Pair.pc x12.head, .str x12.body, .int .u64 x12.n, .int .u64 x12.m, .bool x12.yes]), (4, .box b13 101 [.str x13.s, .int .i64 x13.pos, .int .i64 x13.code])]) (fun ⟨x12, x13⟩ => o6 = (x12, x13) ∧ RW x13) ?_ ?_
                · refine go tbv66ok 6 rfl rfl trivial ?_
                  refine cnd rfl (fun h85 => ?_) (fun h85 => ?_)
                  · have e86 := e_o6.trans (condT h85)
                    refine go tbv66ok 3 rfl rfl trivial ?_
                    refine ef (ecallm (r01_In_Num_ok _ _ (by first | assumption | exact rw_new _ | exact ⟨by (try simp only []); omega, by (try simp only []); omega⟩)) rfl rfl rfl rfl rfl ?_)
                    generalize hr88 : r01_In_Num x11 1 = r9
                    intro w87 w87p
                    have e89 := e86.trans (lt_eq hr88.symm)
                    have hA89 := rw_Num x11 1 (by first | assumption | exact rw_new _)
                    (try rw [← hr88.symm] at hA89)
                    have hA90 := num_le x11 1
                    (try rw [← hr88.symm] at hA90)
                    refine go tbv66ok 8 rfl rfl trivial ?_
                    refine ef (store1 tbv66ok rfl rfl rfl rfl rfl rfl rfl rfl rfl ?_)
                    refine go tbv66ok 8 rfl rfl trivial ?_
                    refine cnd rfl (fun h92 => ?_) (fun h92 => ?_)
                    · have p93 := dt h92
                      have e94 := e89.trans (condT h92)
                      refine go tbv66ok 2 rfl rfl trivial ?_
                      refine ef (ecallm (r01_In_Fail_ok _ _) rfl rfl rfl rfl rfl ?_)
                      generalize hr96 : r01_In_Fail r9.2 4 = r10
                      intro w95 w95p
                      have e97 := e94.trans (lt_eq hr96.symm)
                      have hA97 := rw_Fail r9.2 4 (by first | assumption | exact rw_new _)
                      (try rw [← hr96.symm] at hA97)
                      refine go tbv66ok 1 rfl rfl trivial ?_
                      refine next ⟨(⟨x10.channel, x10.kind, x10.name, x10.other, x10.key, x10.head, x10.body, x10.n, x10.m, decide (r9.1 = 1)⟩ : Method), r10⟩ rfl rfl trivial ⟨rfl, rfl, trivial⟩ (by decide) ?_
                      exact ⟨e97, (by first | assumption | exact rw_new _)⟩
                    · have p99 := df h92
                      have e100 := e89.trans (condF h92)
                      refine go tbv66ok 1 rfl rfl trivial ?_
                      refine next ⟨(⟨x10.channel, x10.kind, x10.name, x10.other, x10.key, x10.head, x10.body, x10.n, x10.m, decide (r9.1 = 1)⟩ : Method), r9.2⟩ rfl rfl trivial ⟨rfl, rfl, trivial⟩ (by decide) ?_
                      exact ⟨e100, (by first | assumption | exact rw_new _)⟩
                  · have e101 := e_o6.trans (condF h85)
                    refine go tbv66ok 1 rfl rfl trivial ?_
                    refine next ⟨x10, x11⟩ rfl rfl trivial ⟨rfl, rfl, trivial⟩ (by decide) ?_
                    exact ⟨e101, (by first | assumption | exact rw_new _)⟩
                · rintro ⟨x12, x13⟩ ⟨hp102, hp102_3⟩
                  have e103 := lt2_fin q_o6 hp102
                  refine go tbv66ok 4 rfl rfl trivial ?_
                  refine ef (ecallm (r01_In_End_ok _ (by first | assumption | exact rw_new _ | exact ⟨by (try simp only []); omega, by (try simp only []); omega⟩)) rfl rfl rfl rfl rfl ?_)
                  generalize hr105 : r01_In_End x13 = r11
                  intro w104 w104p
                  have e106 := e103.trans (lt_eq hr105.symm)
                  refine go tbv66ok 4 rfl rfl trivial ?_
                  obtain ⟨o7, e_o7, q_o7⟩ := lt1_split e106
                  refine joinc (ι := Int) [2, 3, 5] [0, 1, 2, 3, 4] (fun e_1 => [(8, .int .i64 e_1)]) (fun e_1 => []) (fun e_1 => o7 = e_1) ?_ ?_
                  · refine go tbv66ok 6 rfl rfl trivial ?_
                    refine cnd rfl (fun h107 => ?_) (fun h107 => ?_)
                    · have p108 := dt h107
                      have e109 := e_o7.trans (condT h107)
                      refine go tbv66ok 2 rfl rfl trivial ?_
                      refine callv (r11_Check x12) (fun r : Int => .int .i64 r) (r11_Check_ok _) rfl rfl fun r12 hr110 w111 => ?_
                      have e112 := e109.trans (lt_eq hr110)
                      refine go tbv66ok 2 rfl rfl trivial ?_
                      refine next r12 rfl rfl ⟨rfl, trivial⟩ trivial (by decide) ?_
                      exact e112
                    · have p113 := df h107
                      have e114 := e_o7.trans (condF h107)
                      refine go tbv66ok 1 rfl rfl trivial ?_
                      refine next r11.1 rfl rfl ⟨rfl, trivial⟩ trivial (by decide) ?_
                      exact e114
                  · rintro e_1 hp115
                    have e116 := lt1_fin q_o7 hp115
                    refine go tbv66ok 8 rfl rfl trivial ?_
                    refine cnd rfl (fun h117 => ?_) (fun h117 => ?_)
                    · have h118 := not_t h117
                      have p119 := df h118
                      have e120 := e116.trans (condT h117)
                      refine go tbv66ok 4 rfl rfl trivial ?_
                      refine ef (storeA tbv66ok rfl rfl rfl rfl rfl rfl rfl rfl rfl rfl ?_)
                      refine go tbv66ok 5 rfl rfl trivial ?_
                      exact rt2 rfl rfl (ple_of (fun r : Method × Int => .tup [.agg (Method.pc r.1), .int .i64 r.2]) e120 (ple rfl))
                    · have h121 := not_f h117
                      have p122 := dt h121
                      have e123 := e116.trans (condF h117)
                      refine go tbv66ok 5 rfl rfl trivial ?_
                      refine ef (storeA tbv66ok rfl rfl rfl rfl rfl rfl rfl rfl rfl rfl ?_)
                      refine go tbv66ok 4 rfl rfl trivial ?_
                      exact rt2 rfl rfl (ple_of (fun r : Method × Int => .tup [.agg (Method.pc r.1), .int .i64 r.2]) e123 (ple rfl))
end Go.SW.V
set_option linter.unusedVariables false
set_option maxRecDepth 100000
set_option maxHeartbeats 4000000
namespace Go.SW.V
open Go.SW Go.Proofs
theorem cb18 : Callable Tryz.prog 18 := callable_of Tryz.func18 (by kernel_rfl) (by kernel_rfl)
theorem cb4 : Callable Tryz.prog 4 := callable_of Tryz.func4 (by kernel_rfl) (by kernel_rfl)
def tbv67 : Tb := [(5, ⟨.int .u8, 1, 1, [.int .u8 0]⟩),
  (9, ⟨.str, 1, 16, [.str []]⟩),
  (50, ⟨.agg [(0, 1), (1, 1), (2, 1)], 3, 24, [.int .u8 0, .int .u8 0, .str []]⟩),
  (54, ⟨.agg [(0, 1), (1, 1), (2, 1), (3, 1), (4, 1), (5, 1), (6, 1), (7, 1), (8, 1), (9, 1)], 10, 120, [.int .u8 0, .int .u8 0, .str [], .str [], .str [], .sl Pair.pc [], .str [], .int .u64 0, .int .u64 0, .bool false]⟩),
  (57, ⟨.agg [(0, 1), (1, 1), (2, 1), (3, 1), (4, 1), (5, 1), (6, 1), (7, 1), (8, 1), (9, 1)], 10, 120, [.int .u8 0, .int .u8 0, .str [], .str [], .str [], .sl Pair.pc [], .str [], .int .u64 0, .int .u64 0, .bool false]⟩),
  (60, ⟨.agg [(0, 1), (1, 1), (2, 1)], 3, 24, [.int .u8 0, .int .u8 0, .str []]⟩)]
theorem tbv67ok : tbB Tryz.prog tbv67 = true := by kernel_rfl
theorem l11_awake : Fn Tryz.prog gb 18 [] (.bool true) := by
  refine fn_cw tbv67ok Tryz.func18 rfl Tryz.ntmps18 rfl cb18 rfl rfl fun w N H hG => ?_
  refine go tbv67ok 8 rfl rfl trivial ?_
  refine call (method_Method_Frame_ok (⟨1, 1, [], [], [], [], [], 0, 0, false⟩ : Method)) rfl rfl fun w1 => ?_
  refine go tbv67ok 3 rfl rfl trivial ?_
  refine ef (alloc tbv67ok 0 rfl rfl rfl rfl fun b2 => ?_)
  refine ef (storeA tbv67ok rfl rfl rfl rfl rfl rfl rfl rfl rfl rfl ?_)
  refine go tbv67ok 5 rfl rfl trivial ?_
  refine call l07_Awake rfl rfl fun w3 => ?_
  refine go tbv67ok 1 rfl rfl trivial ?_
  refine ungd rfl rfl ?_
  refine call l10_Awake rfl rfl fun w4 => ?_
  refine go tbv67ok 2 rfl rfl trivial ?_
  refine ungd rfl rfl ?_
  refine go tbv67ok 1 rfl rfl trivial ?_
  refine ungd rfl rfl ?_
  refine go tbv67ok 1 rfl rfl trivial ?_
  refine so_rt (t := 14) (p' := .bool true) (ple (congrArg PV.bool (show decide (((method_Method_Frame (⟨1, 1, [], [], [], [], [], 0, 0, false⟩ : Method)).2) = 0) = true by decide +kernel))) rfl ?_
  refine go tbv67ok 2 rfl rfl trivial ?_
  refine ungd rfl rfl ?_
  refine go tbv67ok 1 rfl rfl trivial ?_
  refine ungd rfl rfl ?_
  refine go tbv67ok 1 rfl rfl trivial ?_
  refine ungd rfl rfl ?_
  refine go tbv67ok 1 rfl rfl trivial ?_
  refine so_rt (t := 19) (p' := .bool true) (ple (congrArg PV.bool (show decide ((((method_Method_Frame (⟨1, 1, [], [], [], [], [], 0, 0, false⟩ : Method)).1).kind) = 1) = true by decide +kernel))) rfl ?_
  refine go tbv67ok 2 rfl rfl trivial ?_
  refine ungd rfl rfl ?_
  refine go tbv67ok 1 rfl rfl trivial ?_
  refine ungd rfl rfl ?_
  refine go tbv67ok 1 rfl rfl trivial ?_
  refine ungd rfl rfl ?_
  refine go tbv67ok 1 rfl rfl trivial ?_
  refine so_rt (t := 24) (p' := .bool true) (ple (congrArg PV.bool (show decide ((((method_Method_Frame (⟨1, 1, [], [], [], [], [], 0, 0, false⟩ : Method)).1).channel) = 1) = true by decide +kernel))) rfl ?_
  refine go tbv67ok 2 rfl rfl trivial ?_
  refine ungd rfl rfl ?_
  refine go tbv67ok 1 rfl rfl trivial ?_
  refine ungd rfl rfl ?_
  refine go tbv67ok 1 rfl rfl trivial ?_
  refine ungd rfl rfl ?_
  refine go tbv67ok 1 rfl rfl trivial ?_
  refine so_rt (t := 29) (p' := .bool true) (ple (congrArg PV.bool (show decide ((((method_Method_Frame (⟨1, 1, [], [], [], [], [], 0, 0, false⟩ : Method)).1).body) = []) = true by decide +kernel))) rfl ?_
  refine go tbv67ok 5 rfl rfl trivial ?_
  refine rt1 rfl rfl ?_
  refine ple ?_
  exact congrArg PV.bool (by first | rfl | decide +kernel)
theorem l11_MethodReads_ok (f : Frame) : Fn Tryz.prog gb 4 [.agg (Frame.pc f)] (.bool (l11_MethodReads f)) := by
  refine fn_cw tbv67ok Tryz.func4 rfl Tryz.ntmps4 rfl cb4 rfl rfl fun w N H hG => ?_
  have e0 := l11_MethodReads.eq_1 f
  refine go tbv67ok 2 rfl rfl trivial ?_
  refine ef (boxA 0 rfl rfl rfl fun b1 => ?_)
  refine go tbv67ok 6 rfl rfl trivial ?_
  refine call l11_awake rfl rfl fun w2 => ?_
  refine go tbv67ok 3 rfl rfl trivial ?_
  refine cndF rfl rfl ?_
  refine go tbv67ok 11 rfl rfl trivial ?_
  refine cnd rfl (fun h3 => ?_) (fun h3 => ?_)
  · have p4 := dt h3
    have e5 := e0.trans (condT h3)
    refine go tbv67ok 7 rfl rfl trivial ?_
    exact rt1 rfl rfl (ple_of (fun r : Bool => .bool r) e5 (ple rfl))
  · have p6 := df h3
    have e7 := e0.trans (condF h3)
    refine go tbv67ok 5 rfl rfl trivial ?_
    refine callv (method_Of f) (fun r : Method × Int => .tup [.agg (Method.pc r.1), .int .i64 r.2]) (method_Of_ok _) rfl rfl fun r hr8 w9 => ?_
    have e10 := e7.trans (lt_eq hr8)
    have hA10 := of_len f
    (try rw [← hr8] at hA10)
    refine go tbv67ok 3 rfl rfl trivial ?_
    refine ef (alloc tbv67ok 1 rfl rfl rfl rfl fun b12 => ?_)
    refine ef (storeA tbv67ok rfl rfl rfl rfl rfl rfl rfl rfl rfl rfl ?_)
    refine go tbv67ok 6 rfl rfl trivial ?_
    refine callv (r11_Parse f) (fun r : Method × Int => .tup [.agg (Method.pc r.1), .int .i64 r.2]) (r11_Parse_ok _) rfl rfl fun r1 hr13 w14 => ?_
    have e15 := e10.trans (lt_eq hr13)
    refine go tbv67ok 3 rfl rfl trivial ?_
    refine ef (alloc tbv67ok 2 rfl rfl rfl rfl fun b16 => ?_)
    refine ef (storeA tbv67ok rfl rfl rfl rfl rfl rfl rfl rfl rfl rfl ?_)
    refine go tbv67ok 5 rfl rfl trivial ?_
    refine any [3, 4, 5, 6, 7, 8] 10 mixd rfl ?_
    refine gov tbv67ok [0, 2] 8 rfl (by kernel_rfl) rfl rfl trivial ?_
    refine ve 1 rfl (by kernel_rfl) rfl (ecall (l11_To_ok _ (by first | omega | (simp; omega) | decide +kernel)) rfl rfl ?_)
    generalize hr18 : l11_To r.1 = r2
    intro w17
    have e19 := e15.trans (lt_eq hr18.symm)
    refine vcall 3 rfl (by kernel_rfl) (r11_Same_ok _ _) rfl rfl fun w20 => ?_
    refine gov tbv67ok [4, 5, 6, 7, 8, 9] 0 rfl (by kernel_rfl) rfl rfl ⟨(fun hc => hc), (fun hc => hc), rfl, rfl, trivial⟩ ?_
    refine vdone (by kernel_rfl) ?_
    refine go tbv67ok 1 rfl rfl trivial ?_
    refine cnd rfl (fun h21 => ?_) (fun h21 => ?_)
    · have e22 := e19.trans (condT h21)
      refine go tbv67ok 7 rfl rfl trivial ?_
      exact rt1 rfl rfl (ple_of (fun r : Bool => .bool r) e22 (ple rfl))
    · have h23 := orl h21
      have h24 := not_f h23
      have h25 := orr h21
      have h26 := not_f h25
      have p27 := dt h26
      have e28 := e19.trans (condF h21)
      refine go tbv67ok 9 rfl rfl trivial ?_
      refine cnd rfl (fun h29 => ?_) (fun h29 => ?_)
      · have h30 := not_t h29
        have p31 := df h30
        have e32 := e28.trans (condT h29)
        refine go tbv67ok 7 rfl rfl trivial ?_
        exact rt1 rfl rfl (ple_of (fun r : Bool => .bool r) e32 (ple rfl))
      · have h33 := not_f h29
        have p34 := dt h33
        have e35 := e28.trans (condF h29)
        refine go tbv67ok 5 rfl rfl trivial ?_
        refine callv (method_Method_Frame r.1) (fun r : Frame × Int => .tup [.agg (Frame.pc r.1), .int .i64 r.2]) (method_Method_Frame_ok _) rfl rfl fun r3 hr36 w37 => ?_
        have e38 := e35.trans (lt_eq hr36)
        have hA38 := frame_len r.1
        (try rw [← hr36] at hA38)
        refine go tbv67ok 3 rfl rfl trivial ?_
        refine ef (alloc tbv67ok 3 rfl rfl rfl rfl fun b40 => ?_)
        refine ef (storeA tbv67ok rfl rfl rfl rfl rfl rfl rfl rfl rfl rfl ?_)
        refine go tbv67ok 10 rfl rfl trivial ?_
        refine callg rfl (fun hc => (frame_Same _ _)) rfl ⟨(fun hc => hc), (fun hc => hc), trivial⟩ rfl rfl fun _ => ?_
        refine go tbv67ok 5 rfl rfl ⟨rfl, rfl, trivial⟩ ?_
        exact rt1 rfl rfl (ple_of (fun r : Bool => .bool r) e38 (ple rfl))
end Go.SW.V
namespace Go.SW
open Go.ChangeShapes Go.WideShapes Go.ChangeAt Go.RowKit
variable {P : Program}
theorem cells_of_strs {Ht : Type} {enc : TypeId × Value → Ht} {w : World} {base : Nat} {sp : Nat → Bool} {held : Bool} {fuel : Nat} {t e : TypeId} {n : Nat} {cs : List Value} {zs : List Bs} {p : List MemPlace}
    (ht : P.underlying t = some (.array n e)) (he : P.underlying e = some .string) (hce : P.cellsOf e = 1) (hct : P.cellsOf t = n)
    (h : DataW.trod enc P w base sp held fuel t cs = some (.agg (zs.map fun z => .lit (.string z)), p)) : cs = zs.map str := by
  cases fuel with
  | zero => simp [DataW.trod] at h
  | succ fuel =>
    simp only [DataW.trod, ht, hce, hct, Nat.mul_one] at h
    split at h
    · rename_i hl
      obtain ⟨xs, hm, hx⟩ := Option.map_eq_some_iff.1 h
      have hxs : xs.map (·.1) = zs.map fun z => (DataW.lit (.string z) : DataW Ht) := by
        have := congrArg Prod.fst hx
        simpa using this
      have hxl : xs.length = n := by simpa using Lib.mapM_length hm
      have hzl : zs.length = n := by
        have := congrArg List.length hxs
        simp at this
        omega
      apply List.ext_getElem?
      intro i
      by_cases hi : i < n
      · obtain ⟨b, hb, hf⟩ := Lib.mapM_at hm i i (by simp [hi])
        obtain ⟨z, hc, rfl, _⟩ := DataW.trod_string he hf
        have h1 : cs[i]? = some (.string z) := by
          have := congrArg (·[0]?) hc
          simpa [List.getElem?_take, List.getElem?_drop] using this
        have h2 : (xs.map (·.1))[i]? = some (DataW.lit (.string z.data.toList) : DataW Ht) := by simp [hb]
        rw [hxs] at h2
        simp only [List.getElem?_map, Option.map_eq_some_iff, DataW.lit.injEq, Lit.string.injEq] at h2
        obtain ⟨z', hz', rfl⟩ := h2
        rw [h1, List.getElem?_map, hz', str_of]
        rfl
      · rw [List.getElem?_eq_none (by omega), List.getElem?_eq_none (by simp; omega)]
    · cases h
theorem gstrs_of {w : World} {g n : Nat} {name : String} {zs : List Bs} {rest : List (String × DataW Unit)} {t e : TypeId} (hg : P.globalNamed name = some g) (hty : (P.globals[g]?).map (·.type) = some t) (ht : P.underlying t = some (.array n e)) (he : P.underlying e = some .string) (hce : P.cellsOf e = 1) (hct : P.cellsOf t = n)
    (h : laidMet P ((name, .agg (zs.map fun z => .lit (.string z))) :: rest) w) : GStrs (hp w) g zs := by
  obtain ⟨ps, ⟨g', t', cs, fuel, p, q, hg', ht', hvar, hd, _, _⟩, _⟩ := h
  obtain rfl := Option.some.inj (hg.symm.trans hg')
  obtain rfl := Option.some.inj (hty.symm.trans ht')
  have hc := cells_of_strs ht he hce hct hd
  obtain rfl : cs = (zs.map str).toArray := by rw [← hc]
  unfold World.var? at hvar
  rw [hg] at hvar
  simp only [Option.bind_some] at hvar
  split at hvar
  · rename_i cs T fr hh
    cases hvar
    exact ⟨T, fr, hh⟩
  · cases hvar
end Go.SW
namespace Go.SW.V
open Go.SW
/-- The kinds: what each tells, and what the document's table says. -/
theorem kinds {k : Int} (h0 : 0 ≤ k) (h : k ≤ 20) :
    (tellsOf k = [110] ∧ r11_Of k = ⟨false, false, false, false, false, false, false, true, false, false⟩) ∨
    (tellsOf k = [] ∧ r11_Of k = ⟨false, false, false, false, false, false, false, false, false, false⟩) ∨
    (tellsOf k = [65, 110, 120] ∧ r11_Of k = ⟨true, true, true, false, false, false, false, true, false, false⟩) ∨
    (tellsOf k = [65] ∧ r11_Of k = ⟨true, false, false, false, false, false, false, false, false, false⟩) ∨
    (tellsOf k = [65, 110, 109, 120] ∧ r11_Of k = ⟨true, true, true, false, false, false, false, true, true, false⟩) ∨
    (tellsOf k = [65, 79, 112, 104, 121] ∧ r11_Of k = ⟨true, true, false, true, true, true, false, false, false, true⟩) ∨
    (tellsOf k = [65, 107, 104, 109, 98] ∧ r11_Of k = ⟨true, false, false, true, false, true, true, false, true, false⟩) ∨
    (tellsOf k = [65, 110] ∧ r11_Of k = ⟨true, false, false, false, false, false, false, true, false, false⟩) ∨
    (tellsOf k = [110, 109, 121] ∧ r11_Of k = ⟨false, false, false, false, false, false, false, true, true, true⟩) := by
  have : k = 0 ∨ k = 1 ∨ k = 2 ∨ k = 3 ∨ k = 4 ∨ k = 5 ∨ k = 6 ∨ k = 7 ∨ k = 8 ∨ k = 9 ∨ k = 10 ∨ k = 11 ∨ k = 12 ∨ k = 13 ∨ k = 14 ∨ k = 15 ∨ k = 16 ∨ k = 17 ∨ k = 18 ∨ k = 19 ∨ k = 20 := by omega
  rcases this with rfl | rfl | rfl | rfl | rfl | rfl | rfl | rfl | rfl | rfl | rfl | rfl | rfl | rfl | rfl | rfl | rfl | rfl | rfl | rfl | rfl <;> decide
theorem bes_t : besidesOf true = patB := rfl
theorem bes_f : besidesOf false = [] := rfl
/-- The document's check is the method's. -/
theorem check_doc {m : Method} (h0 : 0 ≤ m.kind) : r11_Check m = methodE m := by
  unfold r11_Check methodE
  by_cases h : 20 < m.kind
  · simp [h]
  · simp only [lt, lt1, Bool.cond_eq_ite, decide_eq_true_eq, if_neg h]
    rcases kinds h0 (by omega) with ⟨e1, e2⟩ | ⟨e1, e2⟩ | ⟨e1, e2⟩ | ⟨e1, e2⟩ | ⟨e1, e2⟩ | ⟨e1, e2⟩ | ⟨e1, e2⟩ | ⟨e1, e2⟩ | ⟨e1, e2⟩
    all_goals
      simp only [e1, e2, spareMt, hasK, ckGo, oneE, bes_t, bes_f]
      simp [hasAny]
      split
      · rfl
      · rename_i q
        by_cases a1 : nameE m.name = 0
        · by_cases a2 : m.other = []
          · by_cases a4 : keyE patB m.key = 0 <;> by_cases a5 : keyE [] m.key = 0 <;> by_cases a6 : headE m.head = 0 <;> by_cases a7 : nameE m.other = 0 <;> simp_all
          · by_cases a3 : nameE m.other = 0 <;> by_cases a4 : keyE patB m.key = 0 <;> by_cases a5 : keyE [] m.key = 0 <;> by_cases a6 : headE m.head = 0 <;> simp_all
        · simp_all
/-! What is written -/
def wB (m : Method) (c : UInt8) : Bs :=
  if c = 65 then txtB m.name else if c = 120 then txtB m.other else if c = 79 then txtB m.other else if c = 107 then txtB m.key else if c = 112 then txtB m.key
  else if c = 104 then r9B m.head else if c = 98 then txtB m.body else if c = 110 then numB 8 m.n.toNat else if c = 109 then numB 8 m.m.toNat else if c = 121 then numB 1 (bitN m.yes).toNat else []
theorem bdec {α : Type} {p : Prop} [Decidable p] {a b : α} : (bif decide p then a else b) = if p then a else b := by by_cases h : p <;> simp [h]
theorem frame0 {m : Method} (hp : ∀ p ∈ m.head, 0 ≤ p.kind) : ∀ (l : List UInt8) (o : Out), (∀ c ∈ l, oneE m (c.toNat : Int) = 0) → method_Method_Frame_l0 m l o = (⟨m.channel, m.kind, o.s ++ l.flatMap (wB m)⟩, 0)
  | [], o, _ => by simp [method_Method_Frame_l0]
  | c :: l, o, h => by
    have hc := h c (List.mem_cons_self ..)
    obtain ⟨h1, h2, h3, h4⟩ := oneE_len hc
    have ih := fun o => frame0 hp l o (fun x hx => h x (List.mem_cons_of_mem _ hx))
    rw [method_Method_Frame_l0]
    rw [List.flatMap_cons]
    simp only [bdec]
    split
    · rename_i q; have hl := h1 q; obtain rfl := byteEq (n := 65) (by decide) q; rw [outText_s (by omega)]; simp [wB, ih]
    split
    · rename_i q; have hl := h2 (.inl q); obtain rfl := byteEq (n := 120) (by decide) q; rw [outText_s (by omega)]; simp [wB, ih]
    split
    · rename_i q; have hl := h2 (.inr q); obtain rfl := byteEq (n := 79) (by decide) q; rw [outText_s (by omega)]; simp [wB, ih]
    split
    · rename_i q; have hl := h3 (.inl q); obtain rfl := byteEq (n := 107) (by decide) q; rw [outText_s (by omega)]; simp [wB, ih]
    split
    · rename_i q; have hl := h3 (.inr q); obtain rfl := byteEq (n := 112) (by decide) q; rw [outText_s (by omega)]; simp [wB, ih]
    split
    · rename_i q; obtain rfl := byteEq (n := 104) (by decide) q; have he : headE m.head = 0 := by simpa [oneE] using hc
      rw [headBytes_r he hp]; simp [wB, ih, outRaw]
    split
    · rename_i q; have hl := h4 q; obtain rfl := byteEq (n := 98) (by decide) q; rw [outText_s (by omega)]; simp [wB, ih]
    split
    · rename_i q; obtain rfl := byteEq (n := 110) (by decide) q; rw [outNum8]; simp [wB, ih]
    split
    · rename_i q; obtain rfl := byteEq (n := 109) (by decide) q; rw [outNum8]; simp [wB, ih]
    split
    · rename_i q; obtain rfl := byteEq (n := 121) (by decide) q
      cases hy : m.yes <;> simp [wB, ih, outNum1, hy, bitN]
    · rename_i q1 q2 q3 q4 q5 q6 q7 q8 q9 q10
      have w : wB m c = [] := by
        have n1 : ¬ c = 65 := byteNe (n := 65) (by decide) q1
        have n2 : ¬ c = 120 := byteNe (n := 120) (by decide) q2
        have n3 : ¬ c = 79 := byteNe (n := 79) (by decide) q3
        have n4 : ¬ c = 107 := byteNe (n := 107) (by decide) q4
        have n5 : ¬ c = 112 := byteNe (n := 112) (by decide) q5
        have n6 : ¬ c = 104 := byteNe (n := 104) (by decide) q6
        have n7 : ¬ c = 98 := byteNe (n := 98) (by decide) q7
        have n8 : ¬ c = 110 := byteNe (n := 110) (by decide) q8
        have n9 : ¬ c = 109 := byteNe (n := 109) (by decide) q9
        have n10 : ¬ c = 121 := byteNe (n := 121) (by decide) q10
        simp only [wB, n1, n2, n3, n4, n5, n6, n7, n8, n9, n10, if_false]
      simp [w, ih]
theorem ck_all {m : Method} (h : methodE m = 0) : ∀ c ∈ tellsOf m.kind, oneE m (c.toNat : Int) = 0 := fun c hc => by
  obtain ⟨p, hp, rfl⟩ := List.getElem_of_mem hc
  have := methodE_at h hp
  rwa [List.getD_eq_getElem?_getD, List.getElem?_eq_getElem hp] at this
/-- What is written, and why not. -/
theorem frame_eq {m : Method} (hp : ∀ p ∈ m.head, 0 ≤ p.kind) : method_Method_Frame m = if methodE m = 0 then (⟨m.channel, m.kind, (tellsOf m.kind).flatMap (wB m)⟩, 0) else (⟨0, 0, []⟩, methodE m) := by
  simp only [method_Method_Frame, lt, check_eq, Bool.cond_eq_ite]
  by_cases h : methodE m = 0
  · rw [if_pos h, if_neg (by simp [h])]
    exact frame0 hp _ _ (ck_all h)
  · rw [if_neg h, if_pos (by simp [h])]
end Go.SW.V
namespace Go.SW.V
open Go.SW
section steps
variable (l : List UInt8) (x : Method) (i : In)
theorem o65 : method_Of_l0 (65 :: l) x i = method_Of_l0 l ⟨x.channel, x.kind, (inText i 16).1, x.other, x.key, x.head, x.body, x.n, x.m, x.yes⟩ (inText i 16).2 := by rw [method_Of_l0]; rfl
theorem o120 : method_Of_l0 (120 :: l) x i = method_Of_l0 l ⟨x.channel, x.kind, x.name, (inText i 16).1, x.key, x.head, x.body, x.n, x.m, x.yes⟩ (inText i 16).2 := by rw [method_Of_l0]; rfl
theorem o79 : method_Of_l0 (79 :: l) x i = method_Of_l0 l ⟨x.channel, x.kind, x.name, (inText i 16).1, x.key, x.head, x.body, x.n, x.m, x.yes⟩ (inText i 16).2 := by rw [method_Of_l0]; rfl
theorem o107 : method_Of_l0 (107 :: l) x i = method_Of_l0 l ⟨x.channel, x.kind, x.name, x.other, (inText i 64).1, x.head, x.body, x.n, x.m, x.yes⟩ (inText i 64).2 := by rw [method_Of_l0]; rfl
theorem o112 : method_Of_l0 (112 :: l) x i = method_Of_l0 l ⟨x.channel, x.kind, x.name, x.other, (inText i 64).1, x.head, x.body, x.n, x.m, x.yes⟩ (inText i 64).2 := by rw [method_Of_l0]; rfl
theorem o104 : method_Of_l0 (104 :: l) x i = method_Of_l0 l ⟨x.channel, x.kind, x.name, x.other, x.key, (headRead i).1, x.body, x.n, x.m, x.yes⟩ (headRead i).2 := by rw [method_Of_l0]; rfl
theorem o98 : method_Of_l0 (98 :: l) x i = method_Of_l0 l ⟨x.channel, x.kind, x.name, x.other, x.key, x.head, (inText i 256).1, x.n, x.m, x.yes⟩ (inText i 256).2 := by rw [method_Of_l0]; rfl
theorem o110 : method_Of_l0 (110 :: l) x i = method_Of_l0 l ⟨x.channel, x.kind, x.name, x.other, x.key, x.head, x.body, (inNum i 8).1, x.m, x.yes⟩ (inNum i 8).2 := by rw [method_Of_l0]; rfl
theorem o109 : method_Of_l0 (109 :: l) x i = method_Of_l0 l ⟨x.channel, x.kind, x.name, x.other, x.key, x.head, x.body, x.n, (inNum i 8).1, x.yes⟩ (inNum i 8).2 := by rw [method_Of_l0]; rfl
def inBit (i : In) : In := if 1 < (inNum i 1).1 then inFail (inNum i 1).2 4 else (inNum i 1).2
theorem o121 : method_Of_l0 (121 :: l) x i = method_Of_l0 l ⟨x.channel, x.kind, x.name, x.other, x.key, x.head, x.body, x.n, x.m, decide ((inNum i 1).1 = 1)⟩ (inBit i) := by
  have e : method_Of_l0 (121 :: l) x i = (bif decide (1 < (inNum i 1).1) then method_Of_l0 l ⟨x.channel, x.kind, x.name, x.other, x.key, x.head, x.body, x.n, x.m, decide ((inNum i 1).1 = 1)⟩ (inFail (inNum i 1).2 4) else method_Of_l0 l ⟨x.channel, x.kind, x.name, x.other, x.key, x.head, x.body, x.n, x.m, decide ((inNum i 1).1 = 1)⟩ (inNum i 1).2) := by rw [method_Of_l0]; rfl
  rw [e, bdec]
  unfold inBit
  split <;> rfl
end steps
end Go.SW.V
namespace Go.SW.V
open Go.SW
theorem st_Fail {r : RIn} {i : In} (h : RSt r i) (c : Int) : RSt (r01_In_Fail r c) (inFail i c) := by
  have e : r01_In_Fail r c = rFail r c := by unfold r01_In_Fail rFail; rw [bdec]
  rw [e]; exact h.failA c
theorem st_Raw {r : RIn} {i : In} (h : RSt r i) (n : Int) : (r01_In_Raw r n).1 = (inRaw i n).1 ∧ RSt (r01_In_Raw r n).2 (inRaw i n).2 := by
  have lo := h.lo
  by_cases hc : r.code = 0
  · by_cases hn : n ≤ 0
    · have e : r01_In_Raw r n = ([], r) := by simp [r01_In_Raw, hn]
      rw [e, h.raw0 (.inr hn)]; exact ⟨rfl, h⟩
    · by_cases hl : (r.s.length : Int) - r.pos < n
      · have e : r01_In_Raw r n = ([], ⟨r.s, r.pos, 3⟩) := by simp [r01_In_Raw, r01_In_Fail, lt, hn, hl, hc]
        rw [e, h.raw3 hc hn hl]; exact ⟨rfl, h.err3⟩
      · obtain ⟨e2, s2⟩ := h.rawS hc hn hl
        have e : r01_In_Raw r n = ((r.s.drop r.pos.toNat).take n.toNat, ⟨r.s, r.pos + n, r.code⟩) := by
          have a1 : r.pos + n - n = r.pos := by omega
          have a2 : (r.pos + n).toNat - r.pos.toNat = n.toNat := by omega
          simp [r01_In_Raw, lt, hn, hl, hc, a1, a2]
        rw [e, e2]; exact ⟨rfl, s2⟩
  · have e : r01_In_Raw r n = ([], r) := by simp [r01_In_Raw, hc]
    rw [e, h.raw0 (.inl hc)]; exact ⟨rfl, h⟩
theorem st_Num {r : RIn} {i : In} (h : RSt r i) (b : Int) : (r01_In_Num r b).1 = (inNum i b).1 ∧ RSt (r01_In_Num r b).2 (inNum i b).2 := by
  obtain ⟨e, s⟩ := st_Raw h (min b 8)
  rw [num_eq]
  exact ⟨by simp only [inNum, e], s⟩
theorem st_Text {r : RIn} {i : In} (h : RSt r i) (m : Int) : (r01_In_Text r m).1 = (inText i m).1 ∧ RSt (r01_In_Text r m).2 (inText i m).2 := by
  obtain ⟨e, s⟩ := st_Num h 2
  have hr := inNum_r i 2
  have hw : IntKind.wrap .i64 (inNum i 2).1 = (inNum i 2).1 := wrapB hr.1 (hr.2.2.1 (by omega))
  simp only [r01_In_Text, lt, lt1, bdec, e, hw, inText]
  by_cases q : m < (inNum i 2).1
  · simp only [if_pos q]; exact st_Raw (st_Fail s 5) _
  · simp only [if_neg q]; exact st_Raw s _
theorem wrapU {m : Int} (h : 0 ≤ m) (k : m ≤ 255) : IntKind.wrap .u8 m = m := by
  simp only [IntKind.wrap, IntKind.bits, IntKind.signed]; simp; omega
theorem st_one (r : Int × RIn) (f : Nat) (h : List Pair) (k : Nat) {x : RIn} {i : In} (s : RSt x i) (hk : (k : Int) < IntKind.wrap .i64 r.1) (hc : x.code = 0) :
    ∃ y, r09_Read_l1 r (f + 1) h k x = r09_Read_l1 r f (h ++ [(readOne i).1]) (k + 1) y ∧ RSt y (if (readOne i).2.err = 0 then inFail (readOne i).2 (pairErr (readOne i).1 h) else (readOne i).2) := by
  obtain ⟨e1, s1⟩ := st_Text s 16
  obtain ⟨e2, s2⟩ := st_Num s1 1
  have hr := inNum_r (inText i 16).2 1
  have hw : IntKind.wrap .u8 (inNum (inText i 16).2 1).1 = (inNum (inText i 16).2 1).1 := wrapU hr.1 (hr.2.2.2 (by omega))
  have c1 : (decide ((k : Int) < IntKind.wrap .i64 r.1) && decide (x.code = 0)) = true := by simp [hk, hc]
  rw [r09_Read_l1]
  simp only [lt, c1, cond_true, e1, e2, hw, bdec]
  by_cases q0 : (inNum (inText i 16).2 1).1 = 0
  · obtain ⟨e4, s4⟩ := st_Num s2 8
    have er := s4.err
    have ro : readOne i = (⟨(inText i 16).1, 0, IntKind.wrap .i64 (inNum (inNum (inText i 16).2 1).2 8).1, []⟩, (inNum (inNum (inText i 16).2 1).2 8).2) := by simp [readOne, q0]
    rw [if_pos q0, ro]
    simp only [q0, e4, er]
    split
    · exact ⟨_, rfl, st_Fail s4 _⟩
    · exact ⟨_, rfl, s4⟩
  · rw [if_neg q0]
    by_cases q1 : (inNum (inText i 16).2 1).1 = 1
    · obtain ⟨e4, s4⟩ := st_Text s2 64
      have er := s4.err
      have ro : readOne i = (⟨(inText i 16).1, 1, 0, (inText (inNum (inText i 16).2 1).2 64).1⟩, (inText (inNum (inText i 16).2 1).2 64).2) := by simp [readOne, q1]
      rw [if_pos q1, ro]
      simp only [q1, e4, er]
      split
      · exact ⟨_, rfl, st_Fail s4 _⟩
      · exact ⟨_, rfl, s4⟩
    · rw [if_neg q1]
      by_cases q2 : (inNum (inText i 16).2 1).1 = 2
      · obtain ⟨e4, s4⟩ := st_Num s2 1
        have er := s4.err
        have ro : readOne i = (⟨(inText i 16).1, 2, IntKind.wrap .i64 (inNum (inNum (inText i 16).2 1).2 1).1, []⟩, (inNum (inNum (inText i 16).2 1).2 1).2) := by simp [readOne, q2]
        rw [if_pos q2, ro]
        simp only [q2, e4, er]
        split
        · exact ⟨_, rfl, st_Fail s4 _⟩
        · exact ⟨_, rfl, s4⟩
      · have s4 := st_Fail s2 8
        have er := s4.err
        have ro : readOne i = (⟨(inText i 16).1, (inNum (inText i 16).2 1).1, 0, []⟩, inFail (inNum (inText i 16).2 1).2 8) := by simp [readOne, q0, q1, q2]
        rw [if_neg q2, ro]
        simp only [er]
        split
        · exact ⟨_, rfl, st_Fail s4 _⟩
        · exact ⟨_, rfl, s4⟩
theorem st_go (r : Int × RIn) (N : Nat) (hN : IntKind.wrap .i64 r.1 = (N : Int)) : ∀ (f : Nat) (h : List Pair) (k : Nat) (x : RIn) (i : In), RSt x i → N < f + k → k ≤ N →
    (x.code ≠ 0 → r09_Read_l1 r f h k x = ([], x)) ∧ (x.code = 0 → (r09_Read_l1 r f h k x).1 = (readGo (N - k) i h).1 ∧ RSt (r09_Read_l1 r f h k x).2 (readGo (N - k) i h).2)
  | 0, h, k, x, i, s, h1, h2 => by exfalso; omega
  | f + 1, h, k, x, i, s, h1, h2 => by
    refine ⟨fun hc => ?_, fun hc => ?_⟩
    · rw [r09_Read_l1]; simp [hc]
    · by_cases hk : k < N
      · obtain ⟨y, e, s'⟩ := st_one r f h k s (by omega) hc
        obtain ⟨i1, i2⟩ := st_go r N hN f (h ++ [(readOne i).1]) (k + 1) y _ s' (by omega) (by omega)
        have er := s'.err
        rw [e, show N - k = (N - (k + 1)) + 1 by omega, readGo_step (p := (readOne i).1) (q := (readOne i).2) rfl]
        by_cases yc : y.code = 0
        · rw [if_neg (by rw [er]; simpa using yc)]; exact i2 yc
        · rw [if_pos (by rw [er]; exact yc), i1 yc]; exact ⟨rfl, s'⟩
      · have e : r09_Read_l1 r (f + 1) h k x = (h, x) := by
          rw [r09_Read_l1]
          have : ¬ (k : Int) < IntKind.wrap .i64 r.1 := by omega
          simp [this, hc]
        rw [e, show N - k = 0 by omega]; exact ⟨rfl, s⟩
theorem st_Read {r : RIn} {i : In} (h : RSt r i) : (r09_Read r).1 = (headRead i).1 ∧ RSt (r09_Read r).2 (headRead i).2 := by
  obtain ⟨e, s⟩ := st_Num h 1
  have hr := inNum_r i 1
  have hw : IntKind.wrap .i64 (inNum i 1).1 = (inNum i 1).1 := wrapB hr.1 (by have := hr.2.2.2 (by omega); omega)
  have hN : IntKind.wrap .i64 (r01_In_Num r 1).1 = (((inNum i 1).1.toNat : Nat) : Int) := by rw [e, hw]; omega
  simp only [r09_Read, lt, bdec, headRead]
  rw [e, hw]
  by_cases q : 8 < (inNum i 1).1
  · simp only [if_pos q]
    have s6 := st_Fail s 6
    have er := s6.err
    have hne : (inFail (inNum i 1).2 6).err ≠ 0 := by
      unfold inFail
      split
      · show (6 : Int) ≠ 0; decide
      · rename_i z; exact fun w => z ⟨w, by decide⟩
    have hc : ¬ (r01_In_Fail (r01_In_Num r 1).2 6).code = 0 := by rw [← er]; exact hne
    rw [readGo_bad hne, r09_Read_l0]
    simp only [hc, decide_false, Bool.and_false, cond_false, Bool.not_false, cond_true]
    exact ⟨trivial, s6⟩
  · simp only [if_neg q]
    obtain ⟨a, b⟩ := st_go (r01_In_Num r 1) _ hN ((inNum i 1).1.toNat - 0 + 1) [] 0 _ _ s (by omega) (by omega)
    by_cases hc : (r01_In_Num r 1).2.code = 0
    · exact b hc
    · have hne : (inNum i 1).2.err ≠ 0 := by rw [s.err]; exact hc
      rw [a hc, readGo_bad hne]; exact ⟨rfl, s⟩
theorem ex_Text {r : RIn} {i : In} (h : RSt r i) (m : Int) : ∃ t y j, r01_In_Text r m = (t, y) ∧ inText i m = (t, j) ∧ RSt y j :=
  ⟨(r01_In_Text r m).1, (r01_In_Text r m).2, (inText i m).2, rfl, Prod.ext (st_Text h m).1.symm rfl, (st_Text h m).2⟩
theorem ex_Num {r : RIn} {i : In} (h : RSt r i) (m : Int) : ∃ t y j, r01_In_Num r m = (t, y) ∧ inNum i m = (t, j) ∧ RSt y j :=
  ⟨(r01_In_Num r m).1, (r01_In_Num r m).2, (inNum i m).2, rfl, Prod.ext (st_Num h m).1.symm rfl, (st_Num h m).2⟩
theorem ex_Read {r : RIn} {i : In} (h : RSt r i) : ∃ t y j, r09_Read r = (t, y) ∧ headRead i = (t, j) ∧ RSt y j :=
  ⟨(r09_Read r).1, (r09_Read r).2, (headRead i).2, rfl, Prod.ext (st_Read h).1.symm rfl, (st_Read h).2⟩
def pTail (x : Method) (y : RIn) : Method × Int :=
  lt (r01_In_End y) fun r11 => lt1 (bif decide (r11.1 = 0) then lt (r11_Check x) fun r12 => r12 else r11.1) fun e_1 => bif !decide (e_1 = 0) then ((⟨0, 0, [], [], [], [], [], 0, 0, false⟩ : Method), e_1) else (x, 0)
theorem pTail_eq {x : Method} (hk : 0 ≤ x.kind) {y : RIn} {i : In} (s : RSt y i) : pTail x y = method_Of_l0 [] x i := by
  have e1 : (r01_In_End y).1 = inEnd i := by
    rw [s.end']
    simp only [r01_In_End]
    by_cases q : y.code = 0 ∧ y.pos < y.s.length
    · rw [if_pos q]; simp [q.1, q.2]
    · rw [if_neg q]
      have : (decide (y.code = 0) && decide (y.pos < (y.s.length : Int))) = false := by
        by_cases a : y.code = 0
        · simp [a]; exact Int.not_lt.1 fun z => q ⟨a, z⟩
        · simp [a]
      rw [this]; rfl
  rw [method_Of_l0]
  simp only [pTail, lt, lt1, e1, check_doc hk, check_eq, Bool.cond_eq_ite, decide_eq_true_eq]
  by_cases z : inEnd i = 0
  · simp [z]
  · simp [z]
theorem parse_eq {f : Frame} (h0 : 0 ≤ f.kind) (hl : f.body.length ≤ 9223372036854775807) : r11_Parse f = method_Of f := by
  simp only [method_Of, bdec]
  by_cases h : 20 < f.kind
  · simp [r11_Parse, h]
  · rw [if_neg h]
    have s0 := RSt.new f.body hl
    show _ = method_Of_l0 (tellsOf f.kind) _ _
    have e0 : decide (20 < f.kind) = false := by simpa using h
    rw [r11_Parse, e0, cond_false, lt]
    rcases kinds h0 (by omega) with ⟨e1, e2⟩ | ⟨e1, e2⟩ | ⟨e1, e2⟩ | ⟨e1, e2⟩ | ⟨e1, e2⟩ | ⟨e1, e2⟩ | ⟨e1, e2⟩ | ⟨e1, e2⟩ | ⟨e1, e2⟩
    all_goals rw [e1, e2]
    · obtain ⟨t0, y0, j0, p0, q0, s1⟩ := ex_Num s0 8
      refine Eq.trans ?_ ((pTail_eq (x := ⟨f.channel, f.kind, [], [], [], [], [], t0, 0, false⟩) h0 s1).trans ?_)
      · simp only [lt2, lt, lt1, pTail, cond_true, cond_false, Bool.not_true, Bool.not_false, Bool.true_and, Bool.false_and, Bool.and_true, Bool.and_false, p0]
        by_cases h1 : (r01_In_End y0).1 = 0 <;> by_cases h2 : r11_Check ⟨f.channel, f.kind, [], [], [], [], [], t0, 0, false⟩ = 0 <;> simp [h1, h2]
      · simp only [o110, q0]
    · skip
      exact pTail_eq h0 s0
    · obtain ⟨t0, y0, j0, p0, q0, s1⟩ := ex_Text s0 16; obtain ⟨t1, y1, j1, p1, q1, s2⟩ := ex_Num s1 8; obtain ⟨t2, y2, j2, p2, q2, s3⟩ := ex_Text s2 16
      refine Eq.trans ?_ ((pTail_eq (x := ⟨f.channel, f.kind, t0, t2, [], [], [], t1, 0, false⟩) h0 s3).trans ?_)
      · simp only [lt2, lt, lt1, pTail, cond_true, cond_false, Bool.not_true, Bool.not_false, Bool.true_and, Bool.false_and, Bool.and_true, Bool.and_false, p0, p1, p2]
        by_cases h1 : (r01_In_End y2).1 = 0 <;> by_cases h2 : r11_Check ⟨f.channel, f.kind, t0, t2, [], [], [], t1, 0, false⟩ = 0 <;> simp [h1, h2]
      · simp only [o65, o110, o120, q0, q1, q2]
    · obtain ⟨t0, y0, j0, p0, q0, s1⟩ := ex_Text s0 16
      refine Eq.trans ?_ ((pTail_eq (x := ⟨f.channel, f.kind, t0, [], [], [], [], 0, 0, false⟩) h0 s1).trans ?_)
      · simp only [lt2, lt, lt1, pTail, cond_true, cond_false, Bool.not_true, Bool.not_false, Bool.true_and, Bool.false_and, Bool.and_true, Bool.and_false, p0]
        by_cases h1 : (r01_In_End y0).1 = 0 <;> by_cases h2 : r11_Check ⟨f.channel, f.kind, t0, [], [], [], [], 0, 0, false⟩ = 0 <;> simp [h1, h2]
      · simp only [o65, q0]
    · obtain ⟨t0, y0, j0, p0, q0, s1⟩ := ex_Text s0 16; obtain ⟨t1, y1, j1, p1, q1, s2⟩ := ex_Num s1 8; obtain ⟨t2, y2, j2, p2, q2, s3⟩ := ex_Num s2 8; obtain ⟨t3, y3, j3, p3, q3, s4⟩ := ex_Text s3 16
      refine Eq.trans ?_ ((pTail_eq (x := ⟨f.channel, f.kind, t0, t3, [], [], [], t1, t2, false⟩) h0 s4).trans ?_)
      · simp only [lt2, lt, lt1, pTail, cond_true, cond_false, Bool.not_true, Bool.not_false, Bool.true_and, Bool.false_and, Bool.and_true, Bool.and_false, p0, p1, p2, p3]
        by_cases h1 : (r01_In_End y3).1 = 0 <;> by_cases h2 : r11_Check ⟨f.channel, f.kind, t0, t3, [], [], [], t1, t2, false⟩ = 0 <;> simp [h1, h2]
      · simp only [o65, o110, o109, o120, q0, q1, q2, q3]
    · obtain ⟨t0, y0, j0, p0, q0, s1⟩ := ex_Text s0 16; obtain ⟨t1, y1, j1, p1, q1, s2⟩ := ex_Text s1 16; obtain ⟨t2, y2, j2, p2, q2, s3⟩ := ex_Text s2 64; obtain ⟨t3, y3, j3, p3, q3, s4⟩ := ex_Read s3; obtain ⟨t4, y4, j4, p4, q4, s5⟩ := ex_Num s4 1
      by_cases hb : 1 < t4
      · refine Eq.trans ?_ ((pTail_eq (x := ⟨f.channel, f.kind, t0, t1, t2, t3, [], 0, 0, decide (t4 = 1)⟩) h0 (st_Fail s5 4)).trans ?_)
        · simp only [lt2, lt, lt1, pTail, cond_true, cond_false, Bool.not_true, Bool.not_false, Bool.true_and, Bool.false_and, Bool.and_true, Bool.and_false, p0, p1, p2, p3, p4, hb, decide_true]
          by_cases h1 : (r01_In_End (r01_In_Fail y4 4)).1 = 0 <;> by_cases h2 : r11_Check ⟨f.channel, f.kind, t0, t1, t2, t3, [], 0, 0, decide (t4 = 1)⟩ = 0 <;> simp [h1, h2]
        · simp only [o65, o79, o112, o104, o121, q0, q1, q2, q3, q4, inBit, if_pos hb]
      · refine Eq.trans ?_ ((pTail_eq (x := ⟨f.channel, f.kind, t0, t1, t2, t3, [], 0, 0, decide (t4 = 1)⟩) h0 s5).trans ?_)
        · simp only [lt2, lt, lt1, pTail, cond_true, cond_false, Bool.not_true, Bool.not_false, Bool.true_and, Bool.false_and, Bool.and_true, Bool.and_false, p0, p1, p2, p3, p4, hb, decide_false]
          by_cases h1 : (r01_In_End y4).1 = 0 <;> by_cases h2 : r11_Check ⟨f.channel, f.kind, t0, t1, t2, t3, [], 0, 0, decide (t4 = 1)⟩ = 0 <;> simp [h1, h2]
        · simp only [o65, o79, o112, o104, o121, q0, q1, q2, q3, q4, inBit, if_neg hb]
    · obtain ⟨t0, y0, j0, p0, q0, s1⟩ := ex_Text s0 16; obtain ⟨t1, y1, j1, p1, q1, s2⟩ := ex_Text s1 64; obtain ⟨t2, y2, j2, p2, q2, s3⟩ := ex_Read s2; obtain ⟨t3, y3, j3, p3, q3, s4⟩ := ex_Num s3 8; obtain ⟨t4, y4, j4, p4, q4, s5⟩ := ex_Text s4 256
      refine Eq.trans ?_ ((pTail_eq (x := ⟨f.channel, f.kind, t0, [], t1, t2, t4, 0, t3, false⟩) h0 s5).trans ?_)
      · simp only [lt2, lt, lt1, pTail, cond_true, cond_false, Bool.not_true, Bool.not_false, Bool.true_and, Bool.false_and, Bool.and_true, Bool.and_false, p0, p1, p2, p3, p4]
        by_cases h1 : (r01_In_End y4).1 = 0 <;> by_cases h2 : r11_Check ⟨f.channel, f.kind, t0, [], t1, t2, t4, 0, t3, false⟩ = 0 <;> simp [h1, h2]
      · simp only [o65, o107, o104, o109, o98, q0, q1, q2, q3, q4]
    · obtain ⟨t0, y0, j0, p0, q0, s1⟩ := ex_Text s0 16; obtain ⟨t1, y1, j1, p1, q1, s2⟩ := ex_Num s1 8
      refine Eq.trans ?_ ((pTail_eq (x := ⟨f.channel, f.kind, t0, [], [], [], [], t1, 0, false⟩) h0 s2).trans ?_)
      · simp only [lt2, lt, lt1, pTail, cond_true, cond_false, Bool.not_true, Bool.not_false, Bool.true_and, Bool.false_and, Bool.and_true, Bool.and_false, p0, p1]
        by_cases h1 : (r01_In_End y1).1 = 0 <;> by_cases h2 : r11_Check ⟨f.channel, f.kind, t0, [], [], [], [], t1, 0, false⟩ = 0 <;> simp [h1, h2]
      · simp only [o65, o110, q0, q1]
    · obtain ⟨t0, y0, j0, p0, q0, s1⟩ := ex_Num s0 8; obtain ⟨t1, y1, j1, p1, q1, s2⟩ := ex_Num s1 8; obtain ⟨t2, y2, j2, p2, q2, s3⟩ := ex_Num s2 1
      by_cases hb : 1 < t2
      · refine Eq.trans ?_ ((pTail_eq (x := ⟨f.channel, f.kind, [], [], [], [], [], t0, t1, decide (t2 = 1)⟩) h0 (st_Fail s3 4)).trans ?_)
        · simp only [lt2, lt, lt1, pTail, cond_true, cond_false, Bool.not_true, Bool.not_false, Bool.true_and, Bool.false_and, Bool.and_true, Bool.and_false, p0, p1, p2, hb, decide_true]
          by_cases h1 : (r01_In_End (r01_In_Fail y2 4)).1 = 0 <;> by_cases h2 : r11_Check ⟨f.channel, f.kind, [], [], [], [], [], t0, t1, decide (t2 = 1)⟩ = 0 <;> simp [h1, h2]
        · simp only [o110, o109, o121, q0, q1, q2, inBit, if_pos hb]
      · refine Eq.trans ?_ ((pTail_eq (x := ⟨f.channel, f.kind, [], [], [], [], [], t0, t1, decide (t2 = 1)⟩) h0 s3).trans ?_)
        · simp only [lt2, lt, lt1, pTail, cond_true, cond_false, Bool.not_true, Bool.not_false, Bool.true_and, Bool.false_and, Bool.and_true, Bool.and_false, p0, p1, p2, hb, decide_false]
          by_cases h1 : (r01_In_End y2).1 = 0 <;> by_cases h2 : r11_Check ⟨f.channel, f.kind, [], [], [], [], [], t0, t1, decide (t2 = 1)⟩ = 0 <;> simp [h1, h2]
        · simp only [o110, o109, o121, q0, q1, q2, inBit, if_neg hb]
/-! What is read is written so -/
theorem text_back {i : In} {m : Int} (h : (inText i m).2.err = 0) : i.err = 0 ∧ i.s = txtB (inText i m).1 ++ (inText i m).2.s := by
  obtain ⟨h1, h2, _, _⟩ := inText_back h
  exact ⟨h1, by rw [txtB, List.append_assoc]; exact h2⟩
theorem head_back {i : In} (h : (headRead i).2.err = 0) : i.err = 0 ∧ i.s = r9B (headRead i).1 ++ (headRead i).2.s := by
  obtain ⟨h1, h2, h3⟩ := headRead_back h
  rw [headBytes_r h3 (fun p hp => (headRead_pw i p hp).1.1)] at h2
  exact ⟨h1, h2⟩
theorem bit_back' {i : In} (h : (inBit i).err = 0) : i.err = 0 ∧ i.s = numB 1 (bitN (decide ((inNum i 1).1 = 1))).toNat ++ (inBit i).s := by
  have hr := (inNum_r i 1).1
  unfold inBit at h ⊢
  by_cases q : 1 < (inNum i 1).1
  · rw [if_pos q] at h
    exfalso
    unfold inFail at h
    split at h
    · cases h
    · rename_i z; exact z ⟨h, by decide⟩
  · rw [if_neg q] at h ⊢
    obtain ⟨h1, h2⟩ := inNum_back1 h
    refine ⟨h1, ?_⟩
    have e : bitN (decide ((inNum i 1).1 = 1)) = (inNum i 1).1 := by
      unfold bitN
      by_cases z : (inNum i 1).1 = 1
      · simp [z]
      · simp [z]; omega
    rw [e]; exact h2
theorem o_nil {x : Method} {i : In} (h : (method_Of_l0 [] x i).2 = 0) : i.err = 0 ∧ i.s = [] ∧ methodE x = 0 ∧ method_Of_l0 [] x i = (x, 0) := by
  rw [method_Of_l0] at h ⊢
  simp only [lt, check_eq, Bool.cond_eq_ite] at h ⊢
  by_cases z : inEnd i = 0
  · by_cases c : methodE x = 0
    · have z' := z
      unfold inEnd at z'
      split at z'
      · cases z'
      · rename_i q
        refine ⟨z', ?_, c, by simp [z, c]⟩
        cases hs : i.s with
        | nil => rfl
        | cons a b => exact absurd ⟨z', by rw [hs]; simp⟩ q
    · exfalso; simp [z, c] at h
  · exfalso; simp [z] at h
theorem w65 (m : Method) : wB m 65 = txtB m.name := rfl
theorem w120 (m : Method) : wB m 120 = txtB m.other := rfl
theorem w79 (m : Method) : wB m 79 = txtB m.other := rfl
theorem w107 (m : Method) : wB m 107 = txtB m.key := rfl
theorem w112 (m : Method) : wB m 112 = txtB m.key := rfl
theorem w104 (m : Method) : wB m 104 = r9B m.head := rfl
theorem w98 (m : Method) : wB m 98 = txtB m.body := rfl
theorem w110 (m : Method) : wB m 110 = numB 8 m.n.toNat := rfl
theorem w109 (m : Method) : wB m 109 = numB 8 m.m.toNat := rfl
theorem w121 (m : Method) : wB m 121 = numB 1 (bitN m.yes).toNat := rfl
theorem of_back {f : Frame} (h0 : 0 ≤ f.kind) (h : (method_Of f).2 = 0) : ∃ x, method_Of f = (x, 0) ∧ methodE x = 0 ∧ x.channel = f.channel ∧ x.kind = f.kind ∧ f.body = (tellsOf f.kind).flatMap (wB x) ∧ ∀ p ∈ x.head, 0 ≤ p.kind := by
  by_cases hk : 20 < f.kind
  · exfalso; simp [method_Of, hk] at h
  have e : method_Of f = method_Of_l0 (tellsOf f.kind) ⟨f.channel, f.kind, [], [], [], [], [], 0, 0, false⟩ ⟨f.body, 0⟩ := by
    simp only [method_Of, bdec, if_neg hk]
  rw [e] at h ⊢
  have nh : ∀ p ∈ ([] : List Pair), 0 ≤ p.kind := fun p hp => by cases hp
  rcases kinds h0 (by omega) with ⟨e1, -⟩ | ⟨e1, -⟩ | ⟨e1, -⟩ | ⟨e1, -⟩ | ⟨e1, -⟩ | ⟨e1, -⟩ | ⟨e1, -⟩ | ⟨e1, -⟩ | ⟨e1, -⟩
  all_goals
    rw [e1] at h ⊢
    (try simp only [o65, o120, o79, o107, o112, o104, o98, o110, o109, o121] at h ⊢)
    obtain ⟨a0, b0, c0, d0⟩ := o_nil h
    refine ⟨_, d0, c0, rfl, rfl, ?_, ?_⟩
  · obtain ⟨a1, b1⟩ := inNum_back8 a0; show f.body = _
    simp only [List.flatMap_cons, List.flatMap_nil, w65, w120, w79, w107, w112, w104, w98, w110, w109, w121]
    refine b1.trans ?_
    rw [b0]
  · exact nh
  · show f.body = _
    exact b0
  · exact nh
  · obtain ⟨a1, b1⟩ := text_back a0; obtain ⟨a2, b2⟩ := inNum_back8 a1; obtain ⟨a3, b3⟩ := text_back a2; show f.body = _
    simp only [List.flatMap_cons, List.flatMap_nil, w65, w120, w79, w107, w112, w104, w98, w110, w109, w121]
    refine b3.trans ?_
    rw [b2]
    rw [b1]
    rw [b0]
  · exact nh
  · obtain ⟨a1, b1⟩ := text_back a0; show f.body = _
    simp only [List.flatMap_cons, List.flatMap_nil, w65, w120, w79, w107, w112, w104, w98, w110, w109, w121]
    refine b1.trans ?_
    rw [b0]
  · exact nh
  · obtain ⟨a1, b1⟩ := text_back a0; obtain ⟨a2, b2⟩ := inNum_back8 a1; obtain ⟨a3, b3⟩ := inNum_back8 a2; obtain ⟨a4, b4⟩ := text_back a3; show f.body = _
    simp only [List.flatMap_cons, List.flatMap_nil, w65, w120, w79, w107, w112, w104, w98, w110, w109, w121]
    refine b4.trans ?_
    rw [b3]
    rw [b2]
    rw [b1]
    rw [b0]
  · exact nh
  · obtain ⟨a1, b1⟩ := bit_back' a0; obtain ⟨a2, b2⟩ := head_back a1; obtain ⟨a3, b3⟩ := text_back a2; obtain ⟨a4, b4⟩ := text_back a3; obtain ⟨a5, b5⟩ := text_back a4; show f.body = _
    simp only [List.flatMap_cons, List.flatMap_nil, w65, w120, w79, w107, w112, w104, w98, w110, w109, w121]
    refine b5.trans ?_
    rw [b4]
    rw [b3]
    rw [b2]
    rw [b1]
    rw [b0]
  · exact fun p hp => (headRead_pw _ p hp).1.1
  · obtain ⟨a1, b1⟩ := text_back a0; obtain ⟨a2, b2⟩ := inNum_back8 a1; obtain ⟨a3, b3⟩ := head_back a2; obtain ⟨a4, b4⟩ := text_back a3; obtain ⟨a5, b5⟩ := text_back a4; show f.body = _
    simp only [List.flatMap_cons, List.flatMap_nil, w65, w120, w79, w107, w112, w104, w98, w110, w109, w121]
    refine b5.trans ?_
    rw [b4]
    rw [b3]
    rw [b2]
    rw [b1]
    rw [b0]
  · exact fun p hp => (headRead_pw _ p hp).1.1
  · obtain ⟨a1, b1⟩ := inNum_back8 a0; obtain ⟨a2, b2⟩ := text_back a1; show f.body = _
    simp only [List.flatMap_cons, List.flatMap_nil, w65, w120, w79, w107, w112, w104, w98, w110, w109, w121]
    refine b2.trans ?_
    rw [b1]
    rw [b0]
  · exact nh
  · obtain ⟨a1, b1⟩ := bit_back' a0; obtain ⟨a2, b2⟩ := inNum_back8 a1; obtain ⟨a3, b3⟩ := inNum_back8 a2; show f.body = _
    simp only [List.flatMap_cons, List.flatMap_nil, w65, w120, w79, w107, w112, w104, w98, w110, w109, w121]
    refine b3.trans ?_
    rw [b2]
    rw [b1]
    rw [b0]
  · exact nh
/-- The law of what is read. -/
theorem l11_reads (f : Frame) (w : PV.wfs (Frame.pc f)) : l11_MethodReads f = true := by
  have h0 : 0 ≤ f.kind := w.2.1.1
  have hl : f.body.length ≤ 9223372036854775807 := w.2.2.1
  simp only [l11_MethodReads, lt, parse_eq h0 hl, to_eq]
  by_cases q : (600 : Int) < f.body.length
  · simp [q]
  · by_cases z : (method_Of f).2 = 0
    · obtain ⟨x, h1, h2, h3, h4, h5, h6⟩ := of_back h0 z
      have hf := frame_eq (m := x) h6
      rw [if_pos h2, h4, h3, ← h5] at hf
      simp [q, h1, hf, r11_Same]
    · simp [q, z, r11_Same]
end Go.SW.V
