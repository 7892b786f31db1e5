/-
  A part of the proof of DeedPacks: The walks of this seat, printed by program: stairwellref13.Same, stairwellref14.SameBind, stairwellref22.Same, stairwellref22.names, stairwellref22.maybe, stairwellref22.bit, stairwellref22.spare.
-/
import Derived.Test.YtdjkbpmciibafaaGreatDoorProg
import Derived.KernelRfl
import Derived.Test.YtdjkbpmciibafaaGreatDoorDeedPacksP4
set_option linter.unusedVariables false
set_option linter.unusedSimpArgs false
set_option linter.unusedVariables false
set_option maxRecDepth 100000
set_option maxHeartbeats 4000000
namespace Go.SW
open Go.Proofs
theorem ag62 : Ag Tryz.prog 62 true := fun w => by kernel_rfl
theorem ag63 : Ag Tryz.prog 63 true := fun w => by kernel_rfl
theorem ag64 : Ag Tryz.prog 64 true := fun w => by kernel_rfl
theorem bd28  (w : World) : (Instr.build 28 #[]).run Tryz.prog w = .ok (.agg #[.int .u64 0, str [], str [], .slice none 0 0, str [], .int .u64 0, .int .u8 0]) w := by kernel_rfl
theorem bd62  (w : World) : (Instr.build 62 #[]).run Tryz.prog w = .ok (.agg #[str [], .int .u8 0, str []]) w := by kernel_rfl
theorem bd63  (w : World) : (Instr.build 63 #[]).run Tryz.prog w = .ok (.agg #[str [], .int .u64 0, .int .u64 0, str []]) w := by kernel_rfl
theorem bd64  (w : World) : (Instr.build 64 #[]).run Tryz.prog w = .ok (.agg #[str [], str [], .bool false, str [], .slice none 0 0, .bool false]) w := by kernel_rfl
theorem cb106 : Callable Tryz.prog 106 := callable_of Tryz.func106 (by kernel_rfl) (by kernel_rfl)
theorem cb128 : Callable Tryz.prog 128 := callable_of Tryz.func128 (by kernel_rfl) (by kernel_rfl)
theorem cb129 : Callable Tryz.prog 129 := callable_of Tryz.func129 (by kernel_rfl) (by kernel_rfl)
theorem eqr62 (p q : ShopR) (d : Nat) : EqV Tryz.prog (d + 1 + 1) 62 (.agg (ShopR.cells p).toArray) (.agg (ShopR.cells q).toArray) (decide (p = q)) :=
  EqV.to (eqv_agg Tryz.underlying62 (by kernel_rfl) (eqf_1 (by decide) ag9 rfl rfl (eqv_str Tryz.underlying9) (eqf_1 (by decide) ag5 rfl rfl (eqv_int Tryz.underlying5) (eqf_1 (by decide) ag9 rfl rfl (eqv_str Tryz.underlying9) eqf_nil)))) (by obtain ⟨a0, a1, a2⟩ := p; obtain ⟨b0, b1, b2⟩ := q; rw [Bool.eq_iff_iff]; simp)
theorem eqg62 : Tryz.prog.eqGuardType Tryz.prog.depth 62 = false := by kernel_rfl
theorem eqr63 (p q : QueueR) (d : Nat) : EqV Tryz.prog (d + 1 + 1) 63 (.agg (QueueR.cells p).toArray) (.agg (QueueR.cells q).toArray) (decide (p = q)) :=
  EqV.to (eqv_agg Tryz.underlying63 (by kernel_rfl) (eqf_1 (by decide) ag9 rfl rfl (eqv_str Tryz.underlying9) (eqf_1 (by decide) ag25 rfl rfl (eqv_int Tryz.underlying25) (eqf_1 (by decide) ag25 rfl rfl (eqv_int Tryz.underlying25) (eqf_1 (by decide) ag9 rfl rfl (eqv_str Tryz.underlying9) eqf_nil))))) (by obtain ⟨a0, a1, a2, a3⟩ := p; obtain ⟨b0, b1, b2, b3⟩ := q; rw [Bool.eq_iff_iff]; simp)
theorem eqg63 : Tryz.prog.eqGuardType Tryz.prog.depth 63 = false := by kernel_rfl
theorem fl64_0 : Fld Tryz.prog 64 0 0 := fun b o w => by kernel_rfl
theorem fl64_1 : Fld Tryz.prog 64 1 1 := fun b o w => by kernel_rfl
theorem fl64_2 : Fld Tryz.prog 64 2 2 := fun b o w => by kernel_rfl
theorem fl64_3 : Fld Tryz.prog 64 3 3 := fun b o w => by kernel_rfl
theorem fl64_4 : Fld Tryz.prog 64 4 4 := fun b o w => by kernel_rfl
theorem fl64_5 : Fld Tryz.prog 64 5 5 := fun b o w => by kernel_rfl
theorem fl66_0 : Fld Tryz.prog 66 0 0 := fun b o w => by kernel_rfl
theorem fl66_1 : Fld Tryz.prog 66 1 1 := fun b o w => by kernel_rfl
theorem fl66_10 : Fld Tryz.prog 66 10 20 := fun b o w => by kernel_rfl
theorem fl66_11 : Fld Tryz.prog 66 11 21 := fun b o w => by kernel_rfl
theorem fl66_12 : Fld Tryz.prog 66 12 28 := fun b o w => by kernel_rfl
theorem fl66_2 : Fld Tryz.prog 66 2 2 := fun b o w => by kernel_rfl
theorem fl66_3 : Fld Tryz.prog 66 3 5 := fun b o w => by kernel_rfl
theorem fl66_4 : Fld Tryz.prog 66 4 9 := fun b o w => by kernel_rfl
theorem fl66_5 : Fld Tryz.prog 66 5 15 := fun b o w => by kernel_rfl
theorem fl66_6 : Fld Tryz.prog 66 6 16 := fun b o w => by kernel_rfl
theorem fl66_7 : Fld Tryz.prog 66 7 17 := fun b o w => by kernel_rfl
theorem fl66_8 : Fld Tryz.prog 66 8 18 := fun b o w => by kernel_rfl
theorem fl66_9 : Fld Tryz.prog 66 9 19 := fun b o w => by kernel_rfl
theorem sz62 : Sz Tryz.prog 62 3 := fun w => by kernel_rfl
theorem sz63 : Sz Tryz.prog 63 4 := fun w => by kernel_rfl
theorem sz64 : Sz Tryz.prog 64 6 := fun w => by kernel_rfl
theorem r13_Same (H : Hp) (a : Mail) (a_head_a : Option Addr) (a_head_c : Nat) (a_head_h : SlH pairE 4 H (.slice a_head_a a.head.length a_head_c) a.head) (a_w : Mail.wf a) (b : Mail) (b_head_a : Option Addr) (b_head_c : Nat) (b_head_h : SlH pairE 4 H (.slice b_head_a b.head.length b_head_c) b.head) (b_w : Mail.wf b) : Pr Tryz.prog 129 #[.agg (Mail.cells a a_head_a a_head_c).toArray, .agg (Mail.cells b b_head_a b_head_c).toArray] H (.bool (decide (a = b))) := by
  refine pr_cw Tryz.func129 rfl Tryz.ntmps129 rfl (fun N => ?_)
  have a_w' := a_w
  simp only [Mail.wf] at a_w'
  have b_w' := b_w
  simp only [Mail.wf] at b_w'
  refine cw_seq (cw_region (ow1 (op1_box (cs := [_, _, _, _, _, _, _]) 0 rfl rfl (fun b1 => ?_))))
  refine ow1 (op1_box (cs := [_, _, _, _, _, _, _]) 1 rfl rfl (fun b2 => ?_))
  refine oab rfl rfl (ow_nil (seqK_n (cw_seq (cw_region (ol rfl (lo_fieldAddr rfl fl28_0) ?_)))))
  refine ol rfl (lo_load1 (i := 0) (v := .int _ _) rfl ag25 rfl rfl) (ol rfl (lo_fieldAddr rfl fl28_0) (ol rfl (lo_load1 (i := 1) (v := .int _ _) rfl ag25 rfl rfl) (ol rfl (lo_eql rfl rfl) (omb rfl rfl (ow_sp (j := 5) rfl (fun h3 => ?_) (fun h3 => ?_))))))
  · have p4 := dt h3
    refine ow1 (op1_g rfl h3 rfl (lo_fieldAddr rfl fl28_1) ?_)
    refine ow1 (op1_g rfl h3 rfl (lo_load1 (i := 0) (v := str _) rfl ag9 rfl rfl) ?_)
    refine ow1 (op1_g rfl h3 rfl (lo_fieldAddr rfl fl28_1) ?_)
    refine ow1 (op1_g rfl h3 rfl (lo_load1 (i := 1) (v := str _) rfl ag9 rfl rfl) ?_)
    refine ow1 (op1_g rfl h3 rfl (lo_seql rfl rfl) ?_)
    refine ol rfl (lo_pick_t (v := .bool _) rfl h3 rfl) (omb rfl rfl (ow_sp (j := 12) rfl (fun h5 => ?_) (fun h5 => ?_)))
    · have p6 := dt h5
      refine ow1 (op1_g rfl h5 rfl (lo_fieldAddr rfl fl28_2) ?_)
      refine ow1 (op1_g rfl h5 rfl (lo_load1 (i := 0) (v := str _) rfl ag9 rfl rfl) ?_)
      refine ow1 (op1_g rfl h5 rfl (lo_fieldAddr rfl fl28_2) ?_)
      refine ow1 (op1_g rfl h5 rfl (lo_load1 (i := 1) (v := str _) rfl ag9 rfl rfl) ?_)
      refine ow1 (op1_g rfl h5 rfl (lo_seql rfl rfl) ?_)
      refine ol rfl (lo_pick_t (v := .bool _) rfl h5 rfl) (omb rfl rfl (ow_sp (j := 19) rfl (fun h7 => ?_) (fun h7 => ?_)))
      · have p8 := dt h7
        refine ow1 (op1_g rfl h7 rfl (lo_fieldAddr rfl fl28_3) ?_)
        refine ow1 (op1_g rfl h7 rfl (lo_load1 (i := 0) (v := .slice _ _ _) rfl ag26 rfl rfl) ?_)
        refine ow1 (op1_g rfl h7 rfl (lo_fieldAddr rfl fl28_3) ?_)
        refine ow1 (op1_g rfl h7 rfl (lo_load1 (i := 1) (v := .slice _ _ _) rfl ag26 rfl rfl) ?_)
        refine ow1 (op1_prg rfl h7 (r9_Same _ a_head_a a.head.length a_head_c a.head a_head_h b_head_a b.head.length b_head_c b.head b_head_h (by first | omega | (simp <;> omega))) (en_f cb142 rfl) rfl ?_)
        refine ol rfl (lo_pick_t (v := .bool _) rfl h7 rfl) (omb rfl rfl (ow_sp (j := 26) rfl (fun h9 => ?_) (fun h9 => ?_)))
        · have p10 := dt h9
          refine ow1 (op1_g rfl h9 rfl (lo_fieldAddr rfl fl28_4) ?_)
          refine ow1 (op1_g rfl h9 rfl (lo_load1 (i := 0) (v := str _) rfl ag9 rfl rfl) ?_)
          refine ow1 (op1_g rfl h9 rfl (lo_fieldAddr rfl fl28_4) ?_)
          refine ow1 (op1_g rfl h9 rfl (lo_load1 (i := 1) (v := str _) rfl ag9 rfl rfl) ?_)
          refine ow1 (op1_g rfl h9 rfl (lo_seql rfl rfl) ?_)
          refine ol rfl (lo_pick_t (v := .bool _) rfl h9 rfl) (omb rfl rfl (ow_sp (j := 33) rfl (fun h11 => ?_) (fun h11 => ?_)))
          · have p12 := dt h11
            refine ow1 (op1_g rfl h11 rfl (lo_fieldAddr rfl fl28_5) ?_)
            refine ow1 (op1_g rfl h11 rfl (lo_load1 (i := 0) (v := .int _ _) rfl ag25 rfl rfl) ?_)
            refine ow1 (op1_g rfl h11 rfl (lo_fieldAddr rfl fl28_5) ?_)
            refine ow1 (op1_g rfl h11 rfl (lo_load1 (i := 1) (v := .int _ _) rfl ag25 rfl rfl) ?_)
            refine ow1 (op1_g rfl h11 rfl (lo_eql rfl rfl) ?_)
            refine ol rfl (lo_pick_t (v := .bool _) rfl h11 rfl) (omb rfl rfl (ow_sp (j := 40) rfl (fun h13 => ?_) (fun h13 => ?_)))
            · have p14 := dt h13
              refine ow1 (op1_g rfl h13 rfl (lo_fieldAddr rfl fl28_6) ?_)
              refine ow1 (op1_g rfl h13 rfl (lo_load1 (i := 0) (v := .int _ _) rfl ag5 rfl rfl) ?_)
              refine ow1 (op1_g rfl h13 rfl (lo_fieldAddr rfl fl28_6) ?_)
              refine ow1 (op1_g rfl h13 rfl (lo_load1 (i := 1) (v := .int _ _) rfl ag5 rfl rfl) ?_)
              refine ow1 (op1_g rfl h13 rfl (lo_eql rfl rfl) ?_)
              refine ol rfl (lo_pick_t (v := .bool _) rfl h13 rfl) (oab rfl rfl (ow_nil (seqK_n (cw_ret (fnK_r (res1 rfl (rv_t (v := .bool _) rfl)) (.refl _) ?_)))))
              first | (simp [Mail.eq_iff, *]; done)
            have p15 := df h13
            refine og rfl h13 rfl (og rfl h13 rfl (og rfl h13 rfl (og rfl h13 rfl (og rfl h13 rfl (ol rfl (lo_pick_f (v := .bool _) rfl h13 rfl) ?_)))))
            refine oab rfl rfl (ow_nil (seqK_n (cw_ret (fnK_r (res1 rfl (rv_t (v := .bool _) rfl)) (.refl _) ?_))))
            first | (simp [Mail.eq_iff, *]; done)
          have p16 := df h11
          refine og rfl h11 rfl (og rfl h11 rfl (og rfl h11 rfl (og rfl h11 rfl (og rfl h11 rfl (ol rfl (lo_pick_f (v := .bool _) rfl h11 rfl) ?_)))))
          refine omb rfl rfl (og rfl rfl rfl (og rfl rfl rfl (og rfl rfl rfl (og rfl rfl rfl (og rfl rfl rfl ?_)))))
          refine ol rfl (lo_pick_f (v := .bool _) rfl rfl rfl) (oab rfl rfl (ow_nil (seqK_n (cw_ret (fnK_r (res1 rfl (rv_t (v := .bool _) rfl)) (.refl _) ?_)))))
          first | (simp [Mail.eq_iff, *]; done)
        have p17 := df h9
        refine og rfl h9 rfl (og rfl h9 rfl (og rfl h9 rfl (og rfl h9 rfl (og rfl h9 rfl (ol rfl (lo_pick_f (v := .bool _) rfl h9 rfl) ?_)))))
        refine omb rfl rfl (og rfl rfl rfl (og rfl rfl rfl (og rfl rfl rfl (og rfl rfl rfl (og rfl rfl rfl ?_)))))
        refine ol rfl (lo_pick_f (v := .bool _) rfl rfl rfl) (omb rfl rfl (og rfl rfl rfl (og rfl rfl rfl (og rfl rfl rfl (og rfl rfl rfl ?_)))))
        refine og rfl rfl rfl (ol rfl (lo_pick_f (v := .bool _) rfl rfl rfl) (oab rfl rfl (ow_nil (seqK_n (cw_ret ?_)))))
        refine fnK_r (res1 rfl (rv_t (v := .bool _) rfl)) (.refl _) ?_
        first | (simp [Mail.eq_iff, *]; done)
      have p18 := df h7
      refine og rfl h7 rfl (og rfl h7 rfl (og rfl h7 rfl (og rfl h7 rfl (og rfl h7 rfl (ol rfl (lo_pick_f (v := .bool _) rfl h7 rfl) ?_)))))
      refine omb rfl rfl (og rfl rfl rfl (og rfl rfl rfl (og rfl rfl rfl (og rfl rfl rfl (og rfl rfl rfl ?_)))))
      refine ol rfl (lo_pick_f (v := .bool _) rfl rfl rfl) (omb rfl rfl (og rfl rfl rfl (og rfl rfl rfl (og rfl rfl rfl (og rfl rfl rfl ?_)))))
      refine og rfl rfl rfl (ol rfl (lo_pick_f (v := .bool _) rfl rfl rfl) (omb rfl rfl (og rfl rfl rfl (og rfl rfl rfl (og rfl rfl rfl ?_)))))
      refine og rfl rfl rfl (og rfl rfl rfl (ol rfl (lo_pick_f (v := .bool _) rfl rfl rfl) (oab rfl rfl (ow_nil (seqK_n ?_)))))
      refine cw_ret (fnK_r (res1 rfl (rv_t (v := .bool _) rfl)) (.refl _) ?_)
      first | (simp [Mail.eq_iff, *]; done)
    have p19 := df h5
    refine og rfl h5 rfl (og rfl h5 rfl (og rfl h5 rfl (og rfl h5 rfl (og rfl h5 rfl (ol rfl (lo_pick_f (v := .bool _) rfl h5 rfl) ?_)))))
    refine omb rfl rfl (og rfl rfl rfl (og rfl rfl rfl (og rfl rfl rfl (og rfl rfl rfl (og rfl rfl rfl ?_)))))
    refine ol rfl (lo_pick_f (v := .bool _) rfl rfl rfl) (omb rfl rfl (og rfl rfl rfl (og rfl rfl rfl (og rfl rfl rfl (og rfl rfl rfl ?_)))))
    refine og rfl rfl rfl (ol rfl (lo_pick_f (v := .bool _) rfl rfl rfl) (omb rfl rfl (og rfl rfl rfl (og rfl rfl rfl (og rfl rfl rfl ?_)))))
    refine og rfl rfl rfl (og rfl rfl rfl (ol rfl (lo_pick_f (v := .bool _) rfl rfl rfl) (omb rfl rfl (og rfl rfl rfl (og rfl rfl rfl ?_)))))
    refine og rfl rfl rfl (og rfl rfl rfl (og rfl rfl rfl (ol rfl (lo_pick_f (v := .bool _) rfl rfl rfl) (oab rfl rfl (ow_nil ?_)))))
    refine seqK_n (cw_ret (fnK_r (res1 rfl (rv_t (v := .bool _) rfl)) (.refl _) ?_))
    first | (simp [Mail.eq_iff, *]; done)
  have p20 := df h3
  refine og rfl h3 rfl (og rfl h3 rfl (og rfl h3 rfl (og rfl h3 rfl (og rfl h3 rfl (ol rfl (lo_pick_f (v := .bool _) rfl h3 rfl) ?_)))))
  refine omb rfl rfl (og rfl rfl rfl (og rfl rfl rfl (og rfl rfl rfl (og rfl rfl rfl (og rfl rfl rfl ?_)))))
  refine ol rfl (lo_pick_f (v := .bool _) rfl rfl rfl) (omb rfl rfl (og rfl rfl rfl (og rfl rfl rfl (og rfl rfl rfl (og rfl rfl rfl ?_)))))
  refine og rfl rfl rfl (ol rfl (lo_pick_f (v := .bool _) rfl rfl rfl) (omb rfl rfl (og rfl rfl rfl (og rfl rfl rfl (og rfl rfl rfl ?_)))))
  refine og rfl rfl rfl (og rfl rfl rfl (ol rfl (lo_pick_f (v := .bool _) rfl rfl rfl) (omb rfl rfl (og rfl rfl rfl (og rfl rfl rfl ?_)))))
  refine og rfl rfl rfl (og rfl rfl rfl (og rfl rfl rfl (ol rfl (lo_pick_f (v := .bool _) rfl rfl rfl) (omb rfl rfl (og rfl rfl rfl ?_)))))
  refine og rfl rfl rfl (og rfl rfl rfl (og rfl rfl rfl (og rfl rfl rfl (ol rfl (lo_pick_f (v := .bool _) rfl rfl rfl) (oab rfl rfl ?_)))))
  refine ow_nil (seqK_n (cw_ret (fnK_r (res1 rfl (rv_t (v := .bool _) rfl)) (.refl _) ?_)))
  first | (simp [Mail.eq_iff, *]; done)
theorem r14_SameBind (H : Hp) (a : BindR) (a_want_a : Option Addr) (a_want_c : Nat) (a_want_h : SlH pairE 4 H (.slice a_want_a a.want.length a_want_c) a.want) (a_w : BindR.wf a) (b : BindR) (b_want_a : Option Addr) (b_want_c : Nat) (b_want_h : SlH pairE 4 H (.slice b_want_a b.want.length b_want_c) b.want) (b_w : BindR.wf b) : Pr Tryz.prog 128 #[.agg (BindR.cells a a_want_a a_want_c).toArray, .agg (BindR.cells b b_want_a b_want_c).toArray] H (.bool (decide (a = b))) := by
  refine pr_cw Tryz.func128 rfl Tryz.ntmps128 rfl (fun N => ?_)
  have a_w' := a_w
  simp only [BindR.wf] at a_w'
  have b_w' := b_w
  simp only [BindR.wf] at b_w'
  refine cw_seq (cw_region (ow1 (op1_box (cs := [_, _, _, _, _, _]) 0 rfl rfl (fun b1 => ?_))))
  refine ow1 (op1_box (cs := [_, _, _, _, _, _]) 1 rfl rfl (fun b2 => ?_))
  refine oab rfl rfl (ow_nil (seqK_n (cw_seq (cw_region (ol rfl (lo_fieldAddr rfl fl64_0) ?_)))))
  refine ol rfl (lo_load1 (i := 0) (v := str _) rfl ag9 rfl rfl) (ol rfl (lo_fieldAddr rfl fl64_0) (ol rfl (lo_load1 (i := 1) (v := str _) rfl ag9 rfl rfl) (ol rfl (lo_seql rfl rfl) (omb rfl rfl (ow_sp (j := 5) rfl (fun h3 => ?_) (fun h3 => ?_))))))
  · have p4 := dt h3
    refine ow1 (op1_g rfl h3 rfl (lo_fieldAddr rfl fl64_1) ?_)
    refine ow1 (op1_g rfl h3 rfl (lo_load1 (i := 0) (v := str _) rfl ag9 rfl rfl) ?_)
    refine ow1 (op1_g rfl h3 rfl (lo_fieldAddr rfl fl64_1) ?_)
    refine ow1 (op1_g rfl h3 rfl (lo_load1 (i := 1) (v := str _) rfl ag9 rfl rfl) ?_)
    refine ow1 (op1_g rfl h3 rfl (lo_seql rfl rfl) ?_)
    refine ol rfl (lo_pick_t (v := .bool _) rfl h3 rfl) (omb rfl rfl (ow_sp (j := 12) rfl (fun h5 => ?_) (fun h5 => ?_)))
    · have p6 := dt h5
      refine ow1 (op1_g rfl h5 rfl (lo_fieldAddr rfl fl64_2) ?_)
      refine ow1 (op1_g rfl h5 rfl (lo_load1 (i := 0) (v := .bool _) rfl ag4 rfl rfl) ?_)
      refine ow1 (op1_g rfl h5 rfl (lo_fieldAddr rfl fl64_2) ?_)
      refine ow1 (op1_g rfl h5 rfl (lo_load1 (i := 1) (v := .bool _) rfl ag4 rfl rfl) ?_)
      refine ow1 (op1_g rfl h5 rfl (lo_beql rfl rfl Tryz.underlying4) ?_)
      refine ol rfl (lo_pick_t (v := .bool _) rfl h5 rfl) (omb rfl rfl (ow_sp (j := 19) rfl (fun h7 => ?_) (fun h7 => ?_)))
      · have p8 := beqT h7
        refine ow1 (op1_g rfl h7 rfl (lo_fieldAddr rfl fl64_3) ?_)
        refine ow1 (op1_g rfl h7 rfl (lo_load1 (i := 0) (v := str _) rfl ag9 rfl rfl) ?_)
        refine ow1 (op1_g rfl h7 rfl (lo_fieldAddr rfl fl64_3) ?_)
        refine ow1 (op1_g rfl h7 rfl (lo_load1 (i := 1) (v := str _) rfl ag9 rfl rfl) ?_)
        refine ow1 (op1_g rfl h7 rfl (lo_seql rfl rfl) ?_)
        refine ol rfl (lo_pick_t (v := .bool _) rfl h7 rfl) (omb rfl rfl (ow_sp (j := 26) rfl (fun h9 => ?_) (fun h9 => ?_)))
        · have p10 := dt h9
          refine ow1 (op1_g rfl h9 rfl (lo_fieldAddr rfl fl64_5) ?_)
          refine ow1 (op1_g rfl h9 rfl (lo_load1 (i := 0) (v := .bool _) rfl ag4 rfl rfl) ?_)
          refine ow1 (op1_g rfl h9 rfl (lo_fieldAddr rfl fl64_5) ?_)
          refine ow1 (op1_g rfl h9 rfl (lo_load1 (i := 1) (v := .bool _) rfl ag4 rfl rfl) ?_)
          refine ow1 (op1_g rfl h9 rfl (lo_beql rfl rfl Tryz.underlying4) ?_)
          refine ol rfl (lo_pick_t (v := .bool _) rfl h9 rfl) (omb rfl rfl (ow_sp (j := 33) rfl (fun h11 => ?_) (fun h11 => ?_)))
          · have p12 := beqT h11
            refine ow1 (op1_g rfl h11 rfl (lo_fieldAddr rfl fl64_4) ?_)
            refine ow1 (op1_g rfl h11 rfl (lo_load1 (i := 0) (v := .slice _ _ _) rfl ag26 rfl rfl) ?_)
            refine ow1 (op1_g rfl h11 rfl (lo_fieldAddr rfl fl64_4) ?_)
            refine ow1 (op1_g rfl h11 rfl (lo_load1 (i := 1) (v := .slice _ _ _) rfl ag26 rfl rfl) ?_)
            refine ow1 (op1_prg rfl h11 (r9_Same _ a_want_a a.want.length a_want_c a.want a_want_h b_want_a b.want.length b_want_c b.want b_want_h (by first | omega | (simp <;> omega))) (en_f cb142 rfl) rfl ?_)
            refine ol rfl (lo_pick_t (v := .bool _) rfl h11 rfl) (oab rfl rfl (ow_nil (seqK_n (cw_ret (fnK_r (res1 rfl (rv_t (v := .bool _) rfl)) (.refl _) ?_)))))
            first | (simp [BindR.eq_iff, *]; done) | (simp [BindR.eq_iff, *]; cases a.all <;> cases b.all <;> rfl)
          have p13 := beqF h11
          refine og rfl h11 rfl (og rfl h11 rfl (og rfl h11 rfl (og rfl h11 rfl (og rfl h11 rfl (ol rfl (lo_pick_f (v := .bool _) rfl h11 rfl) ?_)))))
          refine oab rfl rfl (ow_nil (seqK_n (cw_ret (fnK_r (res1 rfl (rv_t (v := .bool _) rfl)) (.refl _) ?_))))
          first | (simp [BindR.eq_iff, *]; done) | (simp [BindR.eq_iff, *]; cases a.all <;> cases b.all <;> rfl)
        have p14 := df h9
        refine og rfl h9 rfl (og rfl h9 rfl (og rfl h9 rfl (og rfl h9 rfl (og rfl h9 rfl (ol rfl (lo_pick_f (v := .bool _) rfl h9 rfl) ?_)))))
        refine omb rfl rfl (og rfl rfl rfl (og rfl rfl rfl (og rfl rfl rfl (og rfl rfl rfl (og rfl rfl rfl ?_)))))
        refine ol rfl (lo_pick_f (v := .bool _) rfl rfl rfl) (oab rfl rfl (ow_nil (seqK_n (cw_ret (fnK_r (res1 rfl (rv_t (v := .bool _) rfl)) (.refl _) ?_)))))
        first | (simp [BindR.eq_iff, *]; done) | (simp [BindR.eq_iff, *]; cases a.all <;> cases b.all <;> rfl)
      have p15 := beqF h7
      refine og rfl h7 rfl (og rfl h7 rfl (og rfl h7 rfl (og rfl h7 rfl (og rfl h7 rfl (ol rfl (lo_pick_f (v := .bool _) rfl h7 rfl) ?_)))))
      refine omb rfl rfl (og rfl rfl rfl (og rfl rfl rfl (og rfl rfl rfl (og rfl rfl rfl (og rfl rfl rfl ?_)))))
      refine ol rfl (lo_pick_f (v := .bool _) rfl rfl rfl) (omb rfl rfl (og rfl rfl rfl (og rfl rfl rfl (og rfl rfl rfl (og rfl rfl rfl ?_)))))
      refine og rfl rfl rfl (ol rfl (lo_pick_f (v := .bool _) rfl rfl rfl) (oab rfl rfl (ow_nil (seqK_n (cw_ret ?_)))))
      refine fnK_r (res1 rfl (rv_t (v := .bool _) rfl)) (.refl _) ?_
      first | (simp [BindR.eq_iff, *]; done) | (simp [BindR.eq_iff, *]; cases a.all <;> cases b.all <;> rfl)
    have p16 := df h5
    refine og rfl h5 rfl (og rfl h5 rfl (og rfl h5 rfl (og rfl h5 rfl (og rfl h5 rfl (ol rfl (lo_pick_f (v := .bool _) rfl h5 rfl) ?_)))))
    refine omb rfl rfl (og rfl rfl rfl (og rfl rfl rfl (og rfl rfl rfl (og rfl rfl rfl (og rfl rfl rfl ?_)))))
    refine ol rfl (lo_pick_f (v := .bool _) rfl rfl rfl) (omb rfl rfl (og rfl rfl rfl (og rfl rfl rfl (og rfl rfl rfl (og rfl rfl rfl ?_)))))
    refine og rfl rfl rfl (ol rfl (lo_pick_f (v := .bool _) rfl rfl rfl) (omb rfl rfl (og rfl rfl rfl (og rfl rfl rfl (og rfl rfl rfl ?_)))))
    refine og rfl rfl rfl (og rfl rfl rfl (ol rfl (lo_pick_f (v := .bool _) rfl rfl rfl) (oab rfl rfl (ow_nil (seqK_n ?_)))))
    refine cw_ret (fnK_r (res1 rfl (rv_t (v := .bool _) rfl)) (.refl _) ?_)
    first | (simp [BindR.eq_iff, *]; done) | (simp [BindR.eq_iff, *]; cases a.all <;> cases b.all <;> rfl)
  have p17 := df h3
  refine og rfl h3 rfl (og rfl h3 rfl (og rfl h3 rfl (og rfl h3 rfl (og rfl h3 rfl (ol rfl (lo_pick_f (v := .bool _) rfl h3 rfl) ?_)))))
  refine omb rfl rfl (og rfl rfl rfl (og rfl rfl rfl (og rfl rfl rfl (og rfl rfl rfl (og rfl rfl rfl ?_)))))
  refine ol rfl (lo_pick_f (v := .bool _) rfl rfl rfl) (omb rfl rfl (og rfl rfl rfl (og rfl rfl rfl (og rfl rfl rfl (og rfl rfl rfl ?_)))))
  refine og rfl rfl rfl (ol rfl (lo_pick_f (v := .bool _) rfl rfl rfl) (omb rfl rfl (og rfl rfl rfl (og rfl rfl rfl (og rfl rfl rfl ?_)))))
  refine og rfl rfl rfl (og rfl rfl rfl (ol rfl (lo_pick_f (v := .bool _) rfl rfl rfl) (omb rfl rfl (og rfl rfl rfl (og rfl rfl rfl ?_)))))
  refine og rfl rfl rfl (og rfl rfl rfl (og rfl rfl rfl (ol rfl (lo_pick_f (v := .bool _) rfl rfl rfl) (oab rfl rfl (ow_nil ?_)))))
  refine seqK_n (cw_ret (fnK_r (res1 rfl (rv_t (v := .bool _) rfl)) (.refl _) ?_))
  first | (simp [BindR.eq_iff, *]; done) | (simp [BindR.eq_iff, *]; cases a.all <;> cases b.all <;> rfl)
theorem r22_Same (H : Hp) (a : DeedR) (a_bind_want_a : Option Addr) (a_bind_want_c : Nat) (a_bind_want_h : SlH pairE 4 H (.slice a_bind_want_a a.bind.want.length a_bind_want_c) a.bind.want) (a_mail_head_a : Option Addr) (a_mail_head_c : Nat) (a_mail_head_h : SlH pairE 4 H (.slice a_mail_head_a a.mail.head.length a_mail_head_c) a.mail.head) (a_w : DeedR.wf a) (b : DeedR) (b_bind_want_a : Option Addr) (b_bind_want_c : Nat) (b_bind_want_h : SlH pairE 4 H (.slice b_bind_want_a b.bind.want.length b_bind_want_c) b.bind.want) (b_mail_head_a : Option Addr) (b_mail_head_c : Nat) (b_mail_head_h : SlH pairE 4 H (.slice b_mail_head_a b.mail.head.length b_mail_head_c) b.mail.head) (b_w : DeedR.wf b) : Pr Tryz.prog 37 #[.agg (DeedR.cells a a_bind_want_a a_bind_want_c a_mail_head_a a_mail_head_c).toArray, .agg (DeedR.cells b b_bind_want_a b_bind_want_c b_mail_head_a b_mail_head_c).toArray] H (.bool (decide (a = b))) := by
  refine pr_cw Tryz.func37 rfl Tryz.ntmps37 rfl (fun N => ?_)
  have a_w' := a_w
  simp only [DeedR.wf, ShopR.wf, QueueR.wf, BindR.wf, Mail.wf] at a_w'
  have b_w' := b_w
  simp only [DeedR.wf, ShopR.wf, QueueR.wf, BindR.wf, Mail.wf] at b_w'
  refine cw_seq (cw_region (ow1 (op1_box (cs := [_, _, _, _, _, _, _, _, _, _, _, _, _, _, _, _, _, _, _, _, _, _, _, _, _, _, _, _, _]) 0 rfl rfl (fun b1 => ?_))))
  refine ow1 (op1_box (cs := [_, _, _, _, _, _, _, _, _, _, _, _, _, _, _, _, _, _, _, _, _, _, _, _, _, _, _, _, _]) 1 rfl rfl (fun b2 => ?_))
  refine oab rfl rfl (ow_nil (seqK_n (cw_seq (cw_seq (cw_region ?_)))))
  refine ol rfl (lo_fieldAddr rfl fl66_0) (ol rfl (lo_load1 (i := 0) (v := .int _ _) rfl ag5 rfl rfl) (ol rfl (lo_fieldAddr rfl fl66_0) (ol rfl (lo_load1 (i := 1) (v := .int _ _) rfl ag5 rfl rfl) (ol rfl (lo_neq rfl rfl) (omb rfl rfl ?_)))))
  refine ow_sp (j := 5) rfl (fun h3 => ?_) (fun h3 => ?_)
  · have h4 := not_t h3
    have p5 := df h4
    refine og rfl h3 rfl (og rfl h3 rfl (og rfl h3 rfl (og rfl h3 rfl (og rfl h3 rfl (ol rfl (lo_pick_t (v := .bool _) rfl h3 rfl) ?_)))))
    refine omb rfl rfl (og rfl rfl rfl (og rfl rfl rfl (og rfl rfl rfl (og rfl rfl rfl (og rfl rfl rfl ?_)))))
    refine ol rfl (lo_pick_t (v := .bool _) rfl rfl rfl) (omb rfl rfl (og rfl rfl rfl (og rfl rfl rfl (og rfl rfl rfl (og rfl rfl rfl ?_)))))
    refine og rfl rfl rfl (ol rfl (lo_pick_t (v := .bool _) rfl rfl rfl) (omb rfl rfl (og rfl rfl rfl (og rfl rfl rfl (og rfl rfl rfl ?_)))))
    refine og rfl rfl rfl (og rfl rfl rfl (ol rfl (lo_pick_t (v := .bool _) rfl rfl rfl) (omb rfl rfl (og rfl rfl rfl (og rfl rfl rfl ?_)))))
    refine og rfl rfl rfl (og rfl rfl rfl (og rfl rfl rfl (ol rfl (lo_pick_t (v := .bool _) rfl rfl rfl) (ow_nil (seqK_n ?_)))))
    refine cw_cond_t rfl rfl (cw_seq (cw_region (oab rfl rfl (ow_nil (seqK_n ?_)))))
    refine cw_ret (seqK_r (fnK_r (res1 rfl (rv_t (v := .bool _) rfl)) (.refl _) ?_))
    first | (simp [DeedR.eq_iff, *]; done)
  have h6 := not_f h3
  have p7 := dt h6
  refine ow1 (op1_g rfl h3 rfl (lo_fieldAddr rfl fl66_1) ?_)
  refine ow1 (op1_g rfl h3 rfl (lo_load1 (i := 0) (v := .int _ _) rfl ag25 rfl rfl) ?_)
  refine ow1 (op1_g rfl h3 rfl (lo_fieldAddr rfl fl66_1) ?_)
  refine ow1 (op1_g rfl h3 rfl (lo_load1 (i := 1) (v := .int _ _) rfl ag25 rfl rfl) ?_)
  refine ow1 (op1_g rfl h3 rfl (lo_neq rfl rfl) ?_)
  refine ol rfl (lo_pick_f (v := .bool _) rfl h3 rfl) (omb rfl rfl (ow_sp (j := 12) rfl (fun h8 => ?_) (fun h8 => ?_)))
  · have h9 := not_t h8
    have p10 := df h9
    refine og rfl h8 rfl (og rfl h8 rfl (og rfl h8 rfl (og rfl h8 rfl (og rfl h8 rfl (ol rfl (lo_pick_t (v := .bool _) rfl h8 rfl) ?_)))))
    refine omb rfl rfl (og rfl rfl rfl (og rfl rfl rfl (og rfl rfl rfl (og rfl rfl rfl (og rfl rfl rfl ?_)))))
    refine ol rfl (lo_pick_t (v := .bool _) rfl rfl rfl) (omb rfl rfl (og rfl rfl rfl (og rfl rfl rfl (og rfl rfl rfl (og rfl rfl rfl ?_)))))
    refine og rfl rfl rfl (ol rfl (lo_pick_t (v := .bool _) rfl rfl rfl) (omb rfl rfl (og rfl rfl rfl (og rfl rfl rfl (og rfl rfl rfl ?_)))))
    refine og rfl rfl rfl (og rfl rfl rfl (ol rfl (lo_pick_t (v := .bool _) rfl rfl rfl) (ow_nil (seqK_n (cw_cond_t rfl rfl ?_)))))
    refine cw_seq (cw_region (oab rfl rfl (ow_nil (seqK_n (cw_ret ?_)))))
    refine seqK_r (fnK_r (res1 rfl (rv_t (v := .bool _) rfl)) (.refl _) ?_)
    first | (simp [DeedR.eq_iff, *]; done)
  have h11 := not_f h8
  have p12 := dt h11
  refine ow1 (op1_g rfl h8 rfl (lo_fieldAddr rfl fl66_2) ?_)
  refine ow1 (op1_g rfl h8 rfl (lo_loadA (i := 0) (vs := [_, _, _]) rfl ag62 sz62 rfl rfl rfl) ?_)
  refine ow1 (op1_g rfl h8 rfl (lo_fieldAddr rfl fl66_2) ?_)
  refine ow1 (op1_g rfl h8 rfl (lo_loadA (i := 1) (vs := [_, _, _]) rfl ag62 sz62 rfl rfl rfl) ?_)
  refine ow1 (op1_g rfl h8 rfl (lo_aneq (u := (ShopR.cells a.shop).toArray) (v := (ShopR.cells b.shop).toArray) rfl rfl eqg62 (eqr62 _ _ 9998)) ?_)
  refine ol rfl (lo_pick_f (v := .bool _) rfl h8 rfl) (omb rfl rfl (ow_sp (j := 19) rfl (fun h13 => ?_) (fun h13 => ?_)))
  · have h14 := not_t h13
    have p15 := df h14
    refine og rfl h13 rfl (og rfl h13 rfl (og rfl h13 rfl (og rfl h13 rfl (og rfl h13 rfl (ol rfl (lo_pick_t (v := .bool _) rfl h13 rfl) ?_)))))
    refine omb rfl rfl (og rfl rfl rfl (og rfl rfl rfl (og rfl rfl rfl (og rfl rfl rfl (og rfl rfl rfl ?_)))))
    refine ol rfl (lo_pick_t (v := .bool _) rfl rfl rfl) (omb rfl rfl (og rfl rfl rfl (og rfl rfl rfl (og rfl rfl rfl (og rfl rfl rfl ?_)))))
    refine og rfl rfl rfl (ol rfl (lo_pick_t (v := .bool _) rfl rfl rfl) (ow_nil (seqK_n (cw_cond_t rfl rfl (cw_seq ?_)))))
    refine cw_region (oab rfl rfl (ow_nil (seqK_n (cw_ret (seqK_r ?_)))))
    refine fnK_r (res1 rfl (rv_t (v := .bool _) rfl)) (.refl _) ?_
    first | (simp [DeedR.eq_iff, *]; done)
  have h16 := not_f h13
  have p17 := dt h16
  refine ow1 (op1_g rfl h13 rfl (lo_fieldAddr rfl fl66_3) ?_)
  refine ow1 (op1_g rfl h13 rfl (lo_loadA (i := 0) (vs := [_, _, _, _]) rfl ag63 sz63 rfl rfl rfl) ?_)
  refine ow1 (op1_g rfl h13 rfl (lo_fieldAddr rfl fl66_3) ?_)
  refine ow1 (op1_g rfl h13 rfl (lo_loadA (i := 1) (vs := [_, _, _, _]) rfl ag63 sz63 rfl rfl rfl) ?_)
  refine ow1 (op1_g rfl h13 rfl (lo_aneq (u := (QueueR.cells a.queue).toArray) (v := (QueueR.cells b.queue).toArray) rfl rfl eqg63 (eqr63 _ _ 9998)) ?_)
  refine ol rfl (lo_pick_f (v := .bool _) rfl h13 rfl) (omb rfl rfl (ow_sp (j := 26) rfl (fun h18 => ?_) (fun h18 => ?_)))
  · have h19 := not_t h18
    have p20 := df h19
    refine og rfl h18 rfl (og rfl h18 rfl (og rfl h18 rfl (og rfl h18 rfl (og rfl h18 rfl (ol rfl (lo_pick_t (v := .bool _) rfl h18 rfl) ?_)))))
    refine omb rfl rfl (og rfl rfl rfl (og rfl rfl rfl (og rfl rfl rfl (og rfl rfl rfl (og rfl rfl rfl ?_)))))
    refine ol rfl (lo_pick_t (v := .bool _) rfl rfl rfl) (ow_nil (seqK_n (cw_cond_t rfl rfl (cw_seq (cw_region ?_)))))
    refine oab rfl rfl (ow_nil (seqK_n (cw_ret (seqK_r (fnK_r (res1 rfl (rv_t (v := .bool _) rfl)) (.refl _) ?_)))))
    first | (simp [DeedR.eq_iff, *]; done)
  have h21 := not_f h18
  have p22 := dt h21
  refine ow1 (op1_g rfl h18 rfl (lo_fieldAddr rfl fl66_5) ?_)
  refine ow1 (op1_g rfl h18 rfl (lo_load1 (i := 0) (v := str _) rfl ag9 rfl rfl) ?_)
  refine ow1 (op1_g rfl h18 rfl (lo_fieldAddr rfl fl66_5) ?_)
  refine ow1 (op1_g rfl h18 rfl (lo_load1 (i := 1) (v := str _) rfl ag9 rfl rfl) ?_)
  refine ow1 (op1_g rfl h18 rfl (lo_sneq rfl rfl) ?_)
  refine ol rfl (lo_pick_f (v := .bool _) rfl h18 rfl) (omb rfl rfl (ow_sp (j := 33) rfl (fun h23 => ?_) (fun h23 => ?_)))
  · have h24 := not_t h23
    have p25 := df h24
    refine og rfl h23 rfl (og rfl h23 rfl (og rfl h23 rfl (og rfl h23 rfl (og rfl h23 rfl (ol rfl (lo_pick_t (v := .bool _) rfl h23 rfl) ?_)))))
    refine ow_nil (seqK_n (cw_cond_t rfl rfl (cw_seq (cw_region (oab rfl rfl ?_)))))
    refine ow_nil (seqK_n (cw_ret (seqK_r (fnK_r (res1 rfl (rv_t (v := .bool _) rfl)) (.refl _) ?_))))
    first | (simp [DeedR.eq_iff, *]; done)
  have h26 := not_f h23
  have p27 := dt h26
  refine ow1 (op1_g rfl h23 rfl (lo_fieldAddr rfl fl66_6) ?_)
  refine ow1 (op1_g rfl h23 rfl (lo_load1 (i := 0) (v := .int _ _) rfl ag25 rfl rfl) ?_)
  refine ow1 (op1_g rfl h23 rfl (lo_fieldAddr rfl fl66_6) ?_)
  refine ow1 (op1_g rfl h23 rfl (lo_load1 (i := 1) (v := .int _ _) rfl ag25 rfl rfl) ?_)
  refine ow1 (op1_g rfl h23 rfl (lo_neq rfl rfl) ?_)
  refine ol rfl (lo_pick_f (v := .bool _) rfl h23 rfl) (ow_nil (seqK_n (cw_cond rfl (fun h28 => ?_) (fun h28 => ?_))))
  · have h29 := not_t h28
    have p30 := df h29
    refine cw_seq (cw_region (oab rfl rfl (ow_nil (seqK_n (cw_ret ?_)))))
    refine seqK_r (fnK_r (res1 rfl (rv_t (v := .bool _) rfl)) (.refl _) ?_)
    first | (simp [DeedR.eq_iff, *]; done)
  have h31 := not_f h28
  have p32 := dt h31
  refine cw_skip (seqK_n (cw_seq (cw_seq (cw_region (ol rfl (lo_fieldAddr rfl fl66_7) ?_)))))
  refine ol rfl (lo_load1 (i := 0) (v := .int _ _) rfl ag5 rfl rfl) (ol rfl (lo_fieldAddr rfl fl66_7) (ol rfl (lo_load1 (i := 1) (v := .int _ _) rfl ag5 rfl rfl) (ol rfl (lo_neq rfl rfl) (omb rfl rfl (ow_sp (j := 5) rfl (fun h33 => ?_) (fun h33 => ?_))))))
  · have h34 := not_t h33
    have p35 := df h34
    refine og rfl h33 rfl (og rfl h33 rfl (og rfl h33 rfl (og rfl h33 rfl (og rfl h33 rfl (ol rfl (lo_pick_t (v := .bool _) rfl h33 rfl) ?_)))))
    refine omb rfl rfl (og rfl rfl rfl (og rfl rfl rfl (og rfl rfl rfl (og rfl rfl rfl (og rfl rfl rfl ?_)))))
    refine ol rfl (lo_pick_t (v := .bool _) rfl rfl rfl) (omb rfl rfl (og rfl rfl rfl (og rfl rfl rfl (og rfl rfl rfl (og rfl rfl rfl ?_)))))
    refine og rfl rfl rfl (ol rfl (lo_pick_t (v := .bool _) rfl rfl rfl) (omb rfl rfl (og rfl rfl rfl (og rfl rfl rfl (og rfl rfl rfl ?_)))))
    refine og rfl rfl rfl (og rfl rfl rfl (ol rfl (lo_pick_t (v := .bool _) rfl rfl rfl) (ow_nil (seqK_n (cw_cond_t rfl rfl ?_)))))
    refine cw_seq (cw_region (oab rfl rfl (ow_nil (seqK_n (cw_ret ?_)))))
    refine seqK_r (fnK_r (res1 rfl (rv_t (v := .bool _) rfl)) (.refl _) ?_)
    first | (simp [DeedR.eq_iff, *]; done)
  have h36 := not_f h33
  have p37 := dt h36
  refine ow1 (op1_g rfl h33 rfl (lo_fieldAddr rfl fl66_8) ?_)
  refine ow1 (op1_g rfl h33 rfl (lo_load1 (i := 0) (v := .int _ _) rfl ag5 rfl rfl) ?_)
  refine ow1 (op1_g rfl h33 rfl (lo_fieldAddr rfl fl66_8) ?_)
  refine ow1 (op1_g rfl h33 rfl (lo_load1 (i := 1) (v := .int _ _) rfl ag5 rfl rfl) ?_)
  refine ow1 (op1_g rfl h33 rfl (lo_neq rfl rfl) ?_)
  refine ol rfl (lo_pick_f (v := .bool _) rfl h33 rfl) (omb rfl rfl (ow_sp (j := 12) rfl (fun h38 => ?_) (fun h38 => ?_)))
  · have h39 := not_t h38
    have p40 := df h39
    refine og rfl h38 rfl (og rfl h38 rfl (og rfl h38 rfl (og rfl h38 rfl (og rfl h38 rfl (ol rfl (lo_pick_t (v := .bool _) rfl h38 rfl) ?_)))))
    refine omb rfl rfl (og rfl rfl rfl (og rfl rfl rfl (og rfl rfl rfl (og rfl rfl rfl (og rfl rfl rfl ?_)))))
    refine ol rfl (lo_pick_t (v := .bool _) rfl rfl rfl) (omb rfl rfl (og rfl rfl rfl (og rfl rfl rfl (og rfl rfl rfl (og rfl rfl rfl ?_)))))
    refine og rfl rfl rfl (ol rfl (lo_pick_t (v := .bool _) rfl rfl rfl) (ow_nil (seqK_n (cw_cond_t rfl rfl (cw_seq ?_)))))
    refine cw_region (oab rfl rfl (ow_nil (seqK_n (cw_ret (seqK_r ?_)))))
    refine fnK_r (res1 rfl (rv_t (v := .bool _) rfl)) (.refl _) ?_
    first | (simp [DeedR.eq_iff, *]; done)
  have h41 := not_f h38
  have p42 := dt h41
  refine ow1 (op1_g rfl h38 rfl (lo_fieldAddr rfl fl66_9) ?_)
  refine ow1 (op1_g rfl h38 rfl (lo_load1 (i := 0) (v := .int _ _) rfl ag5 rfl rfl) ?_)
  refine ow1 (op1_g rfl h38 rfl (lo_fieldAddr rfl fl66_9) ?_)
  refine ow1 (op1_g rfl h38 rfl (lo_load1 (i := 1) (v := .int _ _) rfl ag5 rfl rfl) ?_)
  refine ow1 (op1_g rfl h38 rfl (lo_neq rfl rfl) ?_)
  refine ol rfl (lo_pick_f (v := .bool _) rfl h38 rfl) (omb rfl rfl (ow_sp (j := 19) rfl (fun h43 => ?_) (fun h43 => ?_)))
  · have h44 := not_t h43
    have p45 := df h44
    refine og rfl h43 rfl (og rfl h43 rfl (og rfl h43 rfl (og rfl h43 rfl (og rfl h43 rfl (ol rfl (lo_pick_t (v := .bool _) rfl h43 rfl) ?_)))))
    refine omb rfl rfl (og rfl rfl rfl (og rfl rfl rfl (og rfl rfl rfl (og rfl rfl rfl (og rfl rfl rfl ?_)))))
    refine ol rfl (lo_pick_t (v := .bool _) rfl rfl rfl) (ow_nil (seqK_n (cw_cond_t rfl rfl (cw_seq (cw_region ?_)))))
    refine oab rfl rfl (ow_nil (seqK_n (cw_ret (seqK_r (fnK_r (res1 rfl (rv_t (v := .bool _) rfl)) (.refl _) ?_)))))
    first | (simp [DeedR.eq_iff, *]; done)
  have h46 := not_f h43
  have p47 := dt h46
  refine ow1 (op1_g rfl h43 rfl (lo_fieldAddr rfl fl66_10) ?_)
  refine ow1 (op1_g rfl h43 rfl (lo_load1 (i := 0) (v := .int _ _) rfl ag25 rfl rfl) ?_)
  refine ow1 (op1_g rfl h43 rfl (lo_fieldAddr rfl fl66_10) ?_)
  refine ow1 (op1_g rfl h43 rfl (lo_load1 (i := 1) (v := .int _ _) rfl ag25 rfl rfl) ?_)
  refine ow1 (op1_g rfl h43 rfl (lo_neq rfl rfl) ?_)
  refine ol rfl (lo_pick_f (v := .bool _) rfl h43 rfl) (omb rfl rfl (ow_sp (j := 26) rfl (fun h48 => ?_) (fun h48 => ?_)))
  · have h49 := not_t h48
    have p50 := df h49
    refine og rfl h48 rfl (og rfl h48 rfl (og rfl h48 rfl (og rfl h48 rfl (og rfl h48 rfl (ol rfl (lo_pick_t (v := .bool _) rfl h48 rfl) ?_)))))
    refine ow_nil (seqK_n (cw_cond_t rfl rfl (cw_seq (cw_region (oab rfl rfl ?_)))))
    refine ow_nil (seqK_n (cw_ret (seqK_r (fnK_r (res1 rfl (rv_t (v := .bool _) rfl)) (.refl _) ?_))))
    first | (simp [DeedR.eq_iff, *]; done)
  have h51 := not_f h48
  have p52 := dt h51
  refine ow1 (op1_g rfl h48 rfl (lo_fieldAddr rfl fl66_12) ?_)
  refine ow1 (op1_g rfl h48 rfl (lo_load1 (i := 0) (v := str _) rfl ag9 rfl rfl) ?_)
  refine ow1 (op1_g rfl h48 rfl (lo_fieldAddr rfl fl66_12) ?_)
  refine ow1 (op1_g rfl h48 rfl (lo_load1 (i := 1) (v := str _) rfl ag9 rfl rfl) ?_)
  refine ow1 (op1_g rfl h48 rfl (lo_sneq rfl rfl) ?_)
  refine ol rfl (lo_pick_f (v := .bool _) rfl h48 rfl) (ow_nil (seqK_n (cw_cond rfl (fun h53 => ?_) (fun h53 => ?_))))
  · have h54 := not_t h53
    have p55 := df h54
    refine cw_seq (cw_region (oab rfl rfl (ow_nil (seqK_n (cw_ret ?_)))))
    refine seqK_r (fnK_r (res1 rfl (rv_t (v := .bool _) rfl)) (.refl _) ?_)
    first | (simp [DeedR.eq_iff, *]; done)
  have h56 := not_f h53
  have p57 := dt h56
  refine cw_skip (seqK_n (cw_seq (cw_region (ol rfl (lo_fieldAddr rfl fl66_4) (ol rfl (lo_loadA (i := 0) (vs := [_, _, _, _, _, _]) rfl ag64 sz64 rfl rfl rfl) ?_)))))
  refine ol rfl (lo_fieldAddr rfl fl66_4) (ol rfl (lo_loadA (i := 1) (vs := [_, _, _, _, _, _]) rfl ag64 sz64 rfl rfl rfl) ?_)
  refine ow1 (op1_pr (r14_SameBind _ a.bind a_bind_want_a a_bind_want_c a_bind_want_h (by simp only [BindR.wf]; first | omega | (simp; done) | (simp; omega)) b.bind b_bind_want_a b_bind_want_c b_bind_want_h (by simp only [BindR.wf]; first | omega | (simp; done) | (simp; omega))) (en_f cb128 rfl) rfl ?_)
  refine omb rfl rfl (ow_sp (j := 5) rfl (fun h58 => ?_) (fun h58 => ?_))
  · have p59 := dt h58
    refine ow1 (op1_g rfl h58 rfl (lo_fieldAddr rfl fl66_11) ?_)
    refine ow1 (op1_g rfl h58 rfl (lo_loadA (i := 0) (vs := [_, _, _, _, _, _, _]) rfl ag28 sz28 rfl rfl rfl) ?_)
    refine ow1 (op1_g rfl h58 rfl (lo_fieldAddr rfl fl66_11) ?_)
    refine ow1 (op1_g rfl h58 rfl (lo_loadA (i := 1) (vs := [_, _, _, _, _, _, _]) rfl ag28 sz28 rfl rfl rfl) ?_)
    refine ow1 (op1_prg rfl h58 (r13_Same _ a.mail a_mail_head_a a_mail_head_c a_mail_head_h (by simp only [Mail.wf]; first | omega | (simp; done) | (simp; omega)) b.mail b_mail_head_a b_mail_head_c b_mail_head_h (by simp only [Mail.wf]; first | omega | (simp; done) | (simp; omega))) (en_f cb129 rfl) rfl ?_)
    refine ol rfl (lo_pick_t (v := .bool _) rfl h58 rfl) (oab rfl rfl (ow_nil (seqK_n (cw_ret (fnK_r (res1 rfl (rv_t (v := .bool _) rfl)) (.refl _) ?_)))))
    first | (simp [DeedR.eq_iff, *]; done)
  have p60 := df h58
  refine og rfl h58 rfl (og rfl h58 rfl (og rfl h58 rfl (og rfl h58 rfl (og rfl h58 rfl (ol rfl (lo_pick_f (v := .bool _) rfl h58 rfl) ?_)))))
  refine oab rfl rfl (ow_nil (seqK_n (cw_ret (fnK_r (res1 rfl (rv_t (v := .bool _) rfl)) (.refl _) ?_))))
  first | (simp [DeedR.eq_iff, *]; done)
theorem r22_names (H : Hp) (k : Int) (k_r : 0 ≤ k ∧ k ≤ 255) : Pr Tryz.prog 106 #[.int .u8 k] H (.bool (decide (k = 1 ∨ k = 3 ∨ k = 7 ∨ k = 8))) := by
  refine pr_cw Tryz.func106 rfl Tryz.ntmps106 rfl (fun N => ?_)
  refine cw_seq (cw_region (oab rfl rfl (ow_nil (seqK_n (cw_seq ?_)))))
  refine cw_region (omi rfl rfl (ol rfl (lo_eql rfl rfl) (omb rfl rfl (ow_sp (j := 2) rfl (fun h1 => ?_) (fun h1 => ?_)))))
  · have p2 := dt h1
    refine og rfl h1 rfl (og rfl h1 rfl (ol rfl (lo_pick_t (v := .bool _) rfl h1 rfl) (omb rfl rfl (og rfl rfl rfl (og rfl rfl rfl ?_)))))
    refine ol rfl (lo_pick_t (v := .bool _) rfl rfl rfl) (omb rfl rfl (og rfl rfl rfl (og rfl rfl rfl (ol rfl (lo_pick_t (v := .bool _) rfl rfl rfl) (oab rfl rfl ?_)))))
    refine ow_nil (seqK_n (cw_ret (fnK_r (res1 rfl (rv_t (v := .bool _) rfl)) (.refl _) ?_)))
    refine congrArg Value.bool ?_; rw [Bool.eq_iff_iff]; simp only [decide_eq_true_eq, Bool.false_eq_true, false_iff, true_iff]; omega
  have p3 := df h1
  refine ow1 (op1_g rfl h1 rfl (lo_move (v := .int _ _) rfl) ?_)
  refine ow1 (op1_g rfl h1 rfl (lo_eql rfl rfl) ?_)
  refine ol rfl (lo_pick_f (v := .bool _) rfl h1 rfl) (omb rfl rfl (ow_sp (j := 6) rfl (fun h4 => ?_) (fun h4 => ?_)))
  · have p5 := dt h4
    refine og rfl h4 rfl (og rfl h4 rfl (ol rfl (lo_pick_t (v := .bool _) rfl h4 rfl) (omb rfl rfl (og rfl rfl rfl (og rfl rfl rfl ?_)))))
    refine ol rfl (lo_pick_t (v := .bool _) rfl rfl rfl) (oab rfl rfl (ow_nil (seqK_n (cw_ret (fnK_r (res1 rfl (rv_t (v := .bool _) rfl)) (.refl _) ?_)))))
    refine congrArg Value.bool ?_; rw [Bool.eq_iff_iff]; simp only [decide_eq_true_eq, Bool.false_eq_true, false_iff, true_iff]; omega
  have p6 := df h4
  refine ow1 (op1_g rfl h4 rfl (lo_move (v := .int _ _) rfl) ?_)
  refine ow1 (op1_g rfl h4 rfl (lo_eql rfl rfl) ?_)
  refine ol rfl (lo_pick_f (v := .bool _) rfl h4 rfl) (omb rfl rfl (ow_sp (j := 10) rfl (fun h7 => ?_) (fun h7 => ?_)))
  · have p8 := dt h7
    refine og rfl h7 rfl (og rfl h7 rfl (ol rfl (lo_pick_t (v := .bool _) rfl h7 rfl) (oab rfl rfl (ow_nil (seqK_n ?_)))))
    refine cw_ret (fnK_r (res1 rfl (rv_t (v := .bool _) rfl)) (.refl _) ?_)
    refine congrArg Value.bool ?_; rw [Bool.eq_iff_iff]; simp only [decide_eq_true_eq, Bool.false_eq_true, false_iff, true_iff]; omega
  have p9 := df h7
  refine ow1 (op1_g rfl h7 rfl (lo_move (v := .int _ _) rfl) ?_)
  refine ow1 (op1_g rfl h7 rfl (lo_eql rfl rfl) ?_)
  refine ol rfl (lo_pick_f (v := .bool _) rfl h7 rfl) (oab rfl rfl (ow_nil (seqK_n (cw_ret (fnK_r (res1 rfl (rv_t (v := .bool _) rfl)) (.refl _) ?_)))))
  refine congrArg Value.bool ?_; rw [Bool.eq_iff_iff]; simp only [decide_eq_true_eq, Bool.false_eq_true, false_iff, true_iff]; omega
theorem r22_maybe (H : Hp) (s : Bs) (hs : s.length ≤ 9223372036854775807) : Pr Tryz.prog 104 #[str s] H (.int .i64 (maybeE s)) := by
  refine pr_cw Tryz.func104 rfl Tryz.ntmps104 rfl (fun N => ?_)
  refine cw_seq (cw_region (oai rfl rfl (ow_nil (seqK_n (cw_seq ?_)))))
  refine cw_seq (cw_region (ol rfl (lo_move (v := str _) rfl) (ol rfl (lo_seql rfl rfl) (ow_nil (seqK_n ?_)))))
  refine cw_cond rfl (fun h1 => ?_) (fun h1 => ?_)
  · have p2 := dt h1
    refine cw_seq (cw_region (oai rfl rfl (ow_nil (seqK_n (cw_ret ?_)))))
    refine seqK_r (fnK_r (res1 rfl (rv_t (v := .int _ _) rfl)) (.refl _) ?_)
    simp [maybeE, *]
  have p3 := df h1
  refine cw_skip (seqK_n (cw_seq (cw_region (ol rfl (lo_move (v := str _) rfl) ?_))))
  refine ow1 (op1_pr (r4_Name _ s (by first | omega | decide | (simp; done))) (en_f cb86 rfl) rfl ?_)
  refine oai rfl rfl (ow_nil (seqK_n (cw_ret (fnK_r (res1 rfl (rv_t (v := .int _ _) rfl)) (.refl _) ?_))))
  simp [maybeE, *]
theorem r22_bit (H : Hp) (yes : Bool) : Pr Tryz.prog 123 #[.bool yes] H (str (numB 1 (bitN yes).toNat)) := by
  refine pr_cw Tryz.func123 rfl Tryz.ntmps123 rfl (fun N => ?_)
  refine cw_seq (cw_region (ol rfl (lo_assign (v := str _) rfl) (ow_nil (seqK_n (cw_seq ?_)))))
  refine cw_seq (cw_region (omb rfl rfl (ow_nil (seqK_n (cw_cond rfl (fun h1 => ?_) (fun h1 => ?_))))))
  · refine cw_seq (cw_region (ol rfl (lo_assign (v := str _) rfl) (ow_nil (seqK_n (cw_ret ?_)))))
    refine seqK_r (fnK_r (res1 rfl (rv_t (v := str _) rfl)) (.refl _) ?_)
    simp only [bitN, *]; rfl
  refine cw_skip (seqK_n (cw_seq (cw_region (ol rfl (lo_assign (v := str _) rfl) (ow_nil ?_)))))
  refine seqK_n (cw_ret (fnK_r (res1 rfl (rv_t (v := str _) rfl)) (.refl _) ?_))
  simp only [bitN, *]; rfl
theorem r22_spare (H : Hp) (d : DeedR) (d_bind_want_a : Option Addr) (d_bind_want_c : Nat) (d_bind_want_h : SlH pairE 4 H (.slice d_bind_want_a d.bind.want.length d_bind_want_c) d.bind.want) (d_mail_head_a : Option Addr) (d_mail_head_c : Nat) (d_mail_head_h : SlH pairE 4 H (.slice d_mail_head_a d.mail.head.length d_mail_head_c) d.mail.head) (d_w : DeedR.wf d) : Pr Tryz.prog 103 #[.agg (DeedR.cells d d_bind_want_a d_bind_want_c d_mail_head_a d_mail_head_c).toArray] H (.bool (!decide (d = toldD d))) := by
  refine pr_cw Tryz.func103 rfl Tryz.ntmps103 rfl (fun N => ?_)
  have d_w' := d_w
  simp only [DeedR.wf, ShopR.wf, QueueR.wf, BindR.wf, Mail.wf] at d_w'
  refine cw_seq (cw_region (ow1 (op1_box (cs := [_, _, _, _, _, _, _, _, _, _, _, _, _, _, _, _, _, _, _, _, _, _, _, _, _, _, _, _, _]) 0 rfl rfl (fun b1 => ?_))))
  refine oab rfl rfl (ow_nil (seqK_n (cw_seq (cw_region (ol rfl (lo_fieldAddr rfl fl66_0) ?_)))))
  refine ol rfl (lo_load1 (i := 0) (v := .int _ _) rfl ag5 rfl rfl) (oai rfl rfl (ow_nil (seqK_n (cw_seq (cw_seq ?_)))))
  refine cw_region (omi rfl rfl (ol rfl (lo_neq rfl rfl) (omb rfl rfl (ow_sp (j := 2) rfl (fun h2 => ?_) (fun h2 => ?_)))))
  · have h3 := not_t h2
    have p4 := df h3
    refine ow1 (op1_g rfl h2 rfl (lo_fieldAddr rfl fl66_2) ?_)
    refine ow1 (op1_g rfl h2 rfl (lo_loadA (i := 0) (vs := [_, _, _]) rfl ag62 sz62 rfl rfl rfl) ?_)
    refine ow1 (op1_g rfl h2 rfl (lo_build (v := .agg #[_, _, _]) rfl (bd62)) ?_)
    refine ow1 (op1_g rfl h2 rfl (lo_aneq (u := (ShopR.cells d.shop).toArray) (v := (ShopR.cells (⟨[], 0, []⟩ : ShopR)).toArray) rfl rfl eqg62 (eqr62 _ _ 9998)) ?_)
    refine ol rfl (lo_pick_t (v := .bool _) rfl h2 rfl) (omb rfl rfl (ow_sp (j := 8) rfl (fun h5 => ?_) (fun h5 => ?_)))
    · have h6 := not_t h5
      have p7 := df h6
      refine og rfl h5 rfl (og rfl h5 rfl (og rfl h5 rfl ?_))
      refine ow1 (op1_gx (j := 11) rfl rfl ?_)
      refine ow1 (op1_gx (j := 11) rfl rfl ?_)
      refine ow1 (op1_gx (j := 11) rfl rfl ?_)
      refine ow1 (op1_gx (j := 11) rfl rfl ?_)
      refine og rfl h5 rfl (ol rfl (lo_pick_t (v := .bool _) rfl h5 rfl) (ow_nil (seqK_n (cw_cond_t rfl rfl (cw_seq ?_)))))
      refine cw_region (oab rfl rfl (ow_nil (seqK_n (cw_ret (seqK_r ?_)))))
      refine fnK_r (res1 rfl (rv_t (v := .bool _) rfl)) (.refl _) ?_
      refine congrArg Value.bool (spare_t fun hh => ?_)
      obtain ⟨t1, t2, t3, t4, t5, t6, t7, t8, t9, t10, t11⟩ := told_iff.1 hh
      first
        | (have := t1 (by omega); contradiction)
        | (have := t2 (by omega); contradiction)
        | (have := t3 (by omega) (by omega); contradiction)
        | (have := t4 (by omega) (by omega) (by omega) (by omega); contradiction)
        | (have := t5 (by omega); contradiction)
        | (have := t6 (by omega); contradiction)
        | (have := t7 (by omega); contradiction)
        | (have := t8 (by omega); contradiction)
        | (have := t9 (by omega); contradiction)
        | (have := t10 (by omega); contradiction)
        | (have := t11 (by omega) (by omega); contradiction)
    have h8 := not_f h5
    have p9 := dt h8
    refine ow1 (op1_g rfl h5 rfl (lo_move (v := .int _ _) rfl) ?_)
    refine ow1 (op1_g rfl h5 rfl (lo_neq rfl rfl) ?_)
    refine ow1 (op1_g rfl h5 rfl (lo_move (v := .bool _) rfl) ?_)
    refine ow_sp (j := 11) rfl (fun h10 => ?_) (fun h10 => ?_)
    · have h11 := not_t h10
      have p12 := df h11
      refine ow1 (op1_g rfl h10 rfl (lo_fieldAddr rfl fl66_3) ?_)
      refine ow1 (op1_g rfl h10 rfl (lo_loadA (i := 0) (vs := [_, _, _, _]) rfl ag63 sz63 rfl rfl rfl) ?_)
      refine ow1 (op1_g rfl h10 rfl (lo_build (v := .agg #[_, _, _, _]) rfl (bd63)) ?_)
      refine ow1 (op1_g rfl h10 rfl (lo_aneq (u := (QueueR.cells d.queue).toArray) (v := (QueueR.cells (⟨[], 0, 0, []⟩ : QueueR)).toArray) rfl rfl eqg63 (eqr63 _ _ 9998)) ?_)
      refine ow1 (op1_g rfl h5 rfl (lo_pick_t (v := .bool _) rfl h10 rfl) ?_)
      refine ol rfl (lo_pick_f (v := .bool _) rfl h5 rfl) (ow_nil (seqK_n (cw_cond rfl (fun h13 => ?_) (fun h13 => ?_))))
      · have h14 := not_t h13
        have p15 := df h14
        refine cw_seq (cw_region (oab rfl rfl (ow_nil (seqK_n (cw_ret ?_)))))
        refine seqK_r (fnK_r (res1 rfl (rv_t (v := .bool _) rfl)) (.refl _) ?_)
        refine congrArg Value.bool (spare_t fun hh => ?_)
        obtain ⟨t1, t2, t3, t4, t5, t6, t7, t8, t9, t10, t11⟩ := told_iff.1 hh
        first
          | (have := t1 (by omega); contradiction)
          | (have := t2 (by omega); contradiction)
          | (have := t3 (by omega) (by omega); contradiction)
          | (have := t4 (by omega) (by omega) (by omega) (by omega); contradiction)
          | (have := t5 (by omega); contradiction)
          | (have := t6 (by omega); contradiction)
          | (have := t7 (by omega); contradiction)
          | (have := t8 (by omega); contradiction)
          | (have := t9 (by omega); contradiction)
          | (have := t10 (by omega); contradiction)
          | (have := t11 (by omega) (by omega); contradiction)
      have h16 := not_f h13
      have p17 := dt h16
      refine cw_skip (seqK_n (cw_seq (cw_seq (cw_region (omi rfl rfl ?_)))))
      refine ol rfl (lo_neq rfl rfl) (omb rfl rfl (ow_sp (j := 2) rfl (fun h18 => ?_) (fun h18 => ?_)))
      · have h19 := not_t h18
        have p20 := df h19
        refine ow1 (op1_g rfl h18 rfl (lo_move (v := .int _ _) rfl) ?_)
        refine ow1 (op1_g rfl h18 rfl (lo_neq rfl rfl) ?_)
        refine ol rfl (lo_pick_t (v := .bool _) rfl h18 rfl) (omb rfl rfl (ow_sp (j := 6) rfl (fun h21 => ?_) (fun h21 => ?_)))
        · have h22 := not_t h21
          have p23 := df h22
          refine ow1 (op1_g rfl h21 rfl (lo_fieldAddr rfl fl66_4) ?_)
          refine ow1 (op1_g rfl h21 rfl (lo_loadA (i := 0) (vs := [_, _, _, _, _, _]) rfl ag64 sz64 rfl rfl rfl) ?_)
          refine ow1 (op1_g rfl h21 rfl (lo_build (v := .agg #[_, _, _, _, _, _]) rfl (bd64)) ?_)
          refine ow1 (op1_prg rfl h21 (r14_SameBind _ d.bind d_bind_want_a d_bind_want_c d_bind_want_h (by simp only [BindR.wf]; first | omega | (simp; done) | (simp; omega)) (⟨[], [], false, [], [], false⟩ : BindR) none 0 slh_nil (by simp only [BindR.wf]; first | omega | (simp; done) | (simp; omega))) (en_f cb128 rfl) rfl ?_)
          refine ow1 (op1_g rfl h21 rfl (lo_not rfl) ?_)
          refine ol rfl (lo_pick_t (v := .bool _) rfl h21 rfl) (ow_nil (seqK_n (cw_cond rfl (fun h24 => ?_) (fun h24 => ?_))))
          · have h25 := not_t h24
            have p26 := df h25
            refine cw_seq (cw_region (oab rfl rfl (ow_nil (seqK_n (cw_ret ?_)))))
            refine seqK_r (fnK_r (res1 rfl (rv_t (v := .bool _) rfl)) (.refl _) ?_)
            refine congrArg Value.bool (spare_t fun hh => ?_)
            obtain ⟨t1, t2, t3, t4, t5, t6, t7, t8, t9, t10, t11⟩ := told_iff.1 hh
            first
              | (have := t1 (by omega); contradiction)
              | (have := t2 (by omega); contradiction)
              | (have := t3 (by omega) (by omega); contradiction)
              | (have := t4 (by omega) (by omega) (by omega) (by omega); contradiction)
              | (have := t5 (by omega); contradiction)
              | (have := t6 (by omega); contradiction)
              | (have := t7 (by omega); contradiction)
              | (have := t8 (by omega); contradiction)
              | (have := t9 (by omega); contradiction)
              | (have := t10 (by omega); contradiction)
              | (have := t11 (by omega) (by omega); contradiction)
          have h27 := not_f h24
          have p28 := dt h27
          refine cw_skip (seqK_n (cw_seq (cw_seq (cw_region (omi rfl rfl ?_)))))
          refine ow1 (op1_pr (r22_names _ d.kind (by omega)) (en_f cb106 rfl) rfl ?_)
          refine ol rfl (lo_not rfl) (omb rfl rfl (ow_sp (j := 3) rfl (fun h29 => ?_) (fun h29 => ?_)))
          · have h30 := not_t h29
            have p31 := df h30
            refine ow1 (op1_g rfl h29 rfl (lo_fieldAddr rfl fl66_5) ?_)
            refine ow1 (op1_g rfl h29 rfl (lo_load1 (i := 0) (v := str _) rfl ag9 rfl rfl) ?_)
            refine ow1 (op1_g rfl h29 rfl (lo_sneq rfl rfl) ?_)
            refine ol rfl (lo_pick_t (v := .bool _) rfl h29 rfl) (omb rfl rfl (ow_sp (j := 8) rfl (fun h32 => ?_) (fun h32 => ?_)))
            · have h33 := not_t h32
              have p34 := df h33
              refine og rfl h32 rfl (og rfl h32 rfl (og rfl h32 rfl ?_))
              refine ow1 (op1_gx (j := 11) rfl rfl ?_)
              refine ow1 (op1_gx (j := 11) rfl rfl ?_)
              refine ow1 (op1_gx (j := 11) rfl rfl ?_)
              refine ow1 (op1_gx (j := 11) rfl rfl ?_)
              refine ow1 (op1_gx (j := 15) rfl rfl ?_)
              refine ow1 (op1_gx (j := 15) rfl rfl ?_)
              refine ow1 (op1_gx (j := 15) rfl rfl ?_)
              refine ow1 (op1_gx (j := 11) rfl rfl ?_)
              refine og rfl h32 rfl (ol rfl (lo_pick_t (v := .bool _) rfl h32 rfl) (ow_nil (seqK_n (cw_cond_t rfl rfl (cw_seq ?_)))))
              refine cw_region (oab rfl rfl (ow_nil (seqK_n (cw_ret (seqK_r ?_)))))
              refine fnK_r (res1 rfl (rv_t (v := .bool _) rfl)) (.refl _) ?_
              refine congrArg Value.bool (spare_t fun hh => ?_)
              obtain ⟨t1, t2, t3, t4, t5, t6, t7, t8, t9, t10, t11⟩ := told_iff.1 hh
              first
                | (have := t1 (by omega); contradiction)
                | (have := t2 (by omega); contradiction)
                | (have := t3 (by omega) (by omega); contradiction)
                | (have := t4 (by omega) (by omega) (by omega) (by omega); contradiction)
                | (have := t5 (by omega); contradiction)
                | (have := t6 (by omega); contradiction)
                | (have := t7 (by omega); contradiction)
                | (have := t8 (by omega); contradiction)
                | (have := t9 (by omega); contradiction)
                | (have := t10 (by omega); contradiction)
                | (have := t11 (by omega) (by omega); contradiction)
            have h35 := not_f h32
            have p36 := dt h35
            refine ow1 (op1_g rfl h32 rfl (lo_move (v := .int _ _) rfl) ?_)
            refine ow1 (op1_g rfl h32 rfl (lo_neq rfl rfl) ?_)
            refine ow1 (op1_g rfl h32 rfl (lo_move (v := .bool _) rfl) ?_)
            refine ow1 (op1_g rfl (by rw [(fd (by omega))] <;> rfl) rfl (lo_fieldAddr rfl fl66_6) ?_)
            refine ow1 (op1_g rfl (by rw [(fd (by omega))] <;> rfl) rfl (lo_load1 (i := 0) (v := .int _ _) rfl ag25 rfl rfl) ?_)
            refine ow1 (op1_g rfl (by rw [(fd (by omega))] <;> rfl) rfl (lo_neq rfl rfl) ?_)
            refine ow1 (op1_g rfl (by rw [(fd (by omega))] <;> rfl) rfl (lo_move (v := .bool _) rfl) ?_)
            refine ow_sp (j := 15) rfl (fun h37 => ?_) (fun h37 => ?_)
            · have h38 := not_t h37
              have p39 := df h38
              refine og rfl h37 rfl (og rfl h37 rfl (og rfl h37 rfl ?_))
              refine ow1 (op1_g rfl (by rw [(fd (by omega))] <;> rfl) rfl (lo_pick_t (v := .bool _) rfl h37 rfl) ?_)
              refine ow1 (op1_g rfl h32 rfl (lo_pick_t (v := .bool _) rfl (by rw [(fd (by omega))] <;> rfl) rfl) ?_)
              refine ol rfl (lo_pick_f (v := .bool _) rfl h32 rfl) (ow_nil (seqK_n (cw_cond_t rfl rfl (cw_seq (cw_region ?_)))))
              refine oab rfl rfl (ow_nil (seqK_n (cw_ret (seqK_r (fnK_r (res1 rfl (rv_t (v := .bool _) rfl)) (.refl _) ?_)))))
              refine congrArg Value.bool (spare_t fun hh => ?_)
              obtain ⟨t1, t2, t3, t4, t5, t6, t7, t8, t9, t10, t11⟩ := told_iff.1 hh
              first
                | (have := t1 (by omega); contradiction)
                | (have := t2 (by omega); contradiction)
                | (have := t3 (by omega) (by omega); contradiction)
                | (have := t4 (by omega) (by omega) (by omega) (by omega); contradiction)
                | (have := t5 (by omega); contradiction)
                | (have := t6 (by omega); contradiction)
                | (have := t7 (by omega); contradiction)
                | (have := t8 (by omega); contradiction)
                | (have := t9 (by omega); contradiction)
                | (have := t10 (by omega); contradiction)
                | (have := t11 (by omega) (by omega); contradiction)
            have h40 := not_f h37
            have p41 := dt h40
            refine ow1 (op1_g rfl h37 rfl (lo_fieldAddr rfl fl66_7) ?_)
            refine ow1 (op1_g rfl h37 rfl (lo_load1 (i := 0) (v := .int _ _) rfl ag5 rfl rfl) ?_)
            refine ow1 (op1_g rfl h37 rfl (lo_neq rfl rfl) ?_)
            refine ow1 (op1_g rfl (by rw [(fd (by omega))] <;> rfl) rfl (lo_pick_f (v := .bool _) rfl h37 rfl) ?_)
            refine ow1 (op1_g rfl h32 rfl (lo_pick_t (v := .bool _) rfl (by rw [(fd (by omega))] <;> rfl) rfl) ?_)
            refine ol rfl (lo_pick_f (v := .bool _) rfl h32 rfl) (ow_nil (seqK_n (cw_cond rfl (fun h42 => ?_) (fun h42 => ?_))))
            · have h43 := not_t h42
              have p44 := df h43
              refine cw_seq (cw_region (oab rfl rfl (ow_nil (seqK_n (cw_ret ?_)))))
              refine seqK_r (fnK_r (res1 rfl (rv_t (v := .bool _) rfl)) (.refl _) ?_)
              refine congrArg Value.bool (spare_t fun hh => ?_)
              obtain ⟨t1, t2, t3, t4, t5, t6, t7, t8, t9, t10, t11⟩ := told_iff.1 hh
              first
                | (have := t1 (by omega); contradiction)
                | (have := t2 (by omega); contradiction)
                | (have := t3 (by omega) (by omega); contradiction)
                | (have := t4 (by omega) (by omega) (by omega) (by omega); contradiction)
                | (have := t5 (by omega); contradiction)
                | (have := t6 (by omega); contradiction)
                | (have := t7 (by omega); contradiction)
                | (have := t8 (by omega); contradiction)
                | (have := t9 (by omega); contradiction)
                | (have := t10 (by omega); contradiction)
                | (have := t11 (by omega) (by omega); contradiction)
            have h45 := not_f h42
            have p46 := dt h45
            refine cw_skip (seqK_n (cw_seq (cw_seq (cw_region (omi rfl rfl ?_)))))
            refine ol rfl (lo_neq rfl rfl) (omb rfl rfl (ow_sp (j := 2) rfl (fun h47 => ?_) (fun h47 => ?_)))
            · have h48 := not_t h47
              have p49 := df h48
              refine ow1 (op1_g rfl h47 rfl (lo_fieldAddr rfl fl66_8) ?_)
              refine ow1 (op1_g rfl h47 rfl (lo_load1 (i := 0) (v := .int _ _) rfl ag5 rfl rfl) ?_)
              refine ow1 (op1_g rfl h47 rfl (lo_neq rfl rfl) ?_)
              refine ow1 (op1_g rfl h47 rfl (lo_move (v := .bool _) rfl) ?_)
              refine ow_sp (j := 6) rfl (fun h50 => ?_) (fun h50 => ?_)
              · have h51 := not_t h50
                have p52 := df h51
                refine og rfl h50 rfl (og rfl h50 rfl (og rfl h50 rfl ?_))
                refine ow1 (op1_g rfl h47 rfl (lo_pick_t (v := .bool _) rfl h50 rfl) ?_)
                refine ol rfl (lo_pick_t (v := .bool _) rfl h47 rfl) (omb rfl rfl (og rfl rfl rfl (og rfl rfl rfl (og rfl rfl rfl ?_))))
                refine ow1 (op1_gx (j := 15) rfl rfl ?_)
                refine ow1 (op1_gx (j := 15) rfl rfl ?_)
                refine ow1 (op1_gx (j := 15) rfl rfl ?_)
                refine ow1 (op1_gx (j := 15) rfl rfl ?_)
                refine ow1 (op1_gx (j := 19) rfl rfl ?_)
                refine ow1 (op1_gx (j := 19) rfl rfl ?_)
                refine ow1 (op1_gx (j := 19) rfl rfl ?_)
                refine ow1 (op1_gx (j := 15) rfl rfl ?_)
                refine og rfl rfl rfl (ol rfl (lo_pick_t (v := .bool _) rfl rfl rfl) (ow_nil (seqK_n (cw_cond_t rfl rfl (cw_seq ?_)))))
                refine cw_region (oab rfl rfl (ow_nil (seqK_n (cw_ret (seqK_r ?_)))))
                refine fnK_r (res1 rfl (rv_t (v := .bool _) rfl)) (.refl _) ?_
                refine congrArg Value.bool (spare_t fun hh => ?_)
                obtain ⟨t1, t2, t3, t4, t5, t6, t7, t8, t9, t10, t11⟩ := told_iff.1 hh
                first
                  | (have := t1 (by omega); contradiction)
                  | (have := t2 (by omega); contradiction)
                  | (have := t3 (by omega) (by omega); contradiction)
                  | (have := t4 (by omega) (by omega) (by omega) (by omega); contradiction)
                  | (have := t5 (by omega); contradiction)
                  | (have := t6 (by omega); contradiction)
                  | (have := t7 (by omega); contradiction)
                  | (have := t8 (by omega); contradiction)
                  | (have := t9 (by omega); contradiction)
                  | (have := t10 (by omega); contradiction)
                  | (have := t11 (by omega) (by omega); contradiction)
              have h53 := not_f h50
              have p54 := dt h53
              refine ow1 (op1_g rfl h50 rfl (lo_fieldAddr rfl fl66_10) ?_)
              refine ow1 (op1_g rfl h50 rfl (lo_load1 (i := 0) (v := .int _ _) rfl ag25 rfl rfl) ?_)
              refine ow1 (op1_g rfl h50 rfl (lo_neq rfl rfl) ?_)
              refine ow1 (op1_g rfl h47 rfl (lo_pick_f (v := .bool _) rfl h50 rfl) ?_)
              refine ol rfl (lo_pick_t (v := .bool _) rfl h47 rfl) (omb rfl rfl (ow_sp (j := 12) rfl (fun h55 => ?_) (fun h55 => ?_)))
              · have h56 := not_t h55
                have p57 := df h56
                refine og rfl h55 rfl (og rfl h55 rfl (og rfl h55 rfl ?_))
                refine ow1 (op1_gx (j := 15) rfl rfl ?_)
                refine ow1 (op1_gx (j := 15) rfl rfl ?_)
                refine ow1 (op1_gx (j := 15) rfl rfl ?_)
                refine ow1 (op1_gx (j := 15) rfl rfl ?_)
                refine ow1 (op1_gx (j := 19) rfl rfl ?_)
                refine ow1 (op1_gx (j := 19) rfl rfl ?_)
                refine ow1 (op1_gx (j := 19) rfl rfl ?_)
                refine ow1 (op1_gx (j := 15) rfl rfl ?_)
                refine og rfl h55 rfl (ol rfl (lo_pick_t (v := .bool _) rfl h55 rfl) (ow_nil (seqK_n (cw_cond_t rfl rfl (cw_seq ?_)))))
                refine cw_region (oab rfl rfl (ow_nil (seqK_n (cw_ret (seqK_r ?_)))))
                refine fnK_r (res1 rfl (rv_t (v := .bool _) rfl)) (.refl _) ?_
                refine congrArg Value.bool (spare_t fun hh => ?_)
                obtain ⟨t1, t2, t3, t4, t5, t6, t7, t8, t9, t10, t11⟩ := told_iff.1 hh
                first
                  | (have := t1 (by omega); contradiction)
                  | (have := t2 (by omega); contradiction)
                  | (have := t3 (by omega) (by omega); contradiction)
                  | (have := t4 (by omega) (by omega) (by omega) (by omega); contradiction)
                  | (have := t5 (by omega); contradiction)
                  | (have := t6 (by omega); contradiction)
                  | (have := t7 (by omega); contradiction)
                  | (have := t8 (by omega); contradiction)
                  | (have := t9 (by omega); contradiction)
                  | (have := t10 (by omega); contradiction)
                  | (have := t11 (by omega) (by omega); contradiction)
              have h58 := not_f h55
              have p59 := dt h58
              refine ow1 (op1_g rfl h55 rfl (lo_move (v := .int _ _) rfl) ?_)
              refine ow1 (op1_g rfl h55 rfl (lo_neq rfl rfl) ?_)
              refine ow1 (op1_g rfl h55 rfl (lo_move (v := .bool _) rfl) ?_)
              refine ow_sp (j := 15) rfl (fun h60 => ?_) (fun h60 => ?_)
              · have h61 := not_t h60
                have p62 := df h61
                refine ow1 (op1_g rfl h60 rfl (lo_fieldAddr rfl fl66_9) ?_)
                refine ow1 (op1_g rfl h60 rfl (lo_load1 (i := 0) (v := .int _ _) rfl ag5 rfl rfl) ?_)
                refine ow1 (op1_g rfl h60 rfl (lo_neq rfl rfl) ?_)
                refine ow1 (op1_g rfl h60 rfl (lo_move (v := .bool _) rfl) ?_)
                refine ow_sp (j := 19) rfl (fun h63 => ?_) (fun h63 => ?_)
                · have h64 := not_t h63
                  have p65 := df h64
                  refine og rfl h63 rfl (og rfl h63 rfl (og rfl h63 rfl ?_))
                  refine ow1 (op1_g rfl h60 rfl (lo_pick_t (v := .bool _) rfl h63 rfl) ?_)
                  refine ow1 (op1_g rfl h55 rfl (lo_pick_t (v := .bool _) rfl h60 rfl) ?_)
                  refine ol rfl (lo_pick_f (v := .bool _) rfl h55 rfl) (ow_nil (seqK_n (cw_cond_t rfl rfl (cw_seq (cw_region ?_)))))
                  refine oab rfl rfl (ow_nil (seqK_n (cw_ret (seqK_r (fnK_r (res1 rfl (rv_t (v := .bool _) rfl)) (.refl _) ?_)))))
                  refine congrArg Value.bool (spare_t fun hh => ?_)
                  obtain ⟨t1, t2, t3, t4, t5, t6, t7, t8, t9, t10, t11⟩ := told_iff.1 hh
                  first
                    | (have := t1 (by omega); contradiction)
                    | (have := t2 (by omega); contradiction)
                    | (have := t3 (by omega) (by omega); contradiction)
                    | (have := t4 (by omega) (by omega) (by omega) (by omega); contradiction)
                    | (have := t5 (by omega); contradiction)
                    | (have := t6 (by omega); contradiction)
                    | (have := t7 (by omega); contradiction)
                    | (have := t8 (by omega); contradiction)
                    | (have := t9 (by omega); contradiction)
                    | (have := t10 (by omega); contradiction)
                    | (have := t11 (by omega) (by omega); contradiction)
                have h66 := not_f h63
                have p67 := dt h66
                refine ow1 (op1_g rfl h63 rfl (lo_fieldAddr rfl fl66_12) ?_)
                refine ow1 (op1_g rfl h63 rfl (lo_load1 (i := 0) (v := str _) rfl ag9 rfl rfl) ?_)
                refine ow1 (op1_g rfl h63 rfl (lo_sneq rfl rfl) ?_)
                refine ow1 (op1_g rfl h60 rfl (lo_pick_f (v := .bool _) rfl h63 rfl) ?_)
                refine ow1 (op1_g rfl h55 rfl (lo_pick_t (v := .bool _) rfl h60 rfl) ?_)
                refine ol rfl (lo_pick_f (v := .bool _) rfl h55 rfl) (ow_nil (seqK_n (cw_cond rfl (fun h68 => ?_) (fun h68 => ?_))))
                · have h69 := not_t h68
                  have p70 := df h69
                  refine cw_seq (cw_region (oab rfl rfl (ow_nil (seqK_n (cw_ret ?_)))))
                  refine seqK_r (fnK_r (res1 rfl (rv_t (v := .bool _) rfl)) (.refl _) ?_)
                  refine congrArg Value.bool (spare_t fun hh => ?_)
                  obtain ⟨t1, t2, t3, t4, t5, t6, t7, t8, t9, t10, t11⟩ := told_iff.1 hh
                  first
                    | (have := t1 (by omega); contradiction)
                    | (have := t2 (by omega); contradiction)
                    | (have := t3 (by omega) (by omega); contradiction)
                    | (have := t4 (by omega) (by omega) (by omega) (by omega); contradiction)
                    | (have := t5 (by omega); contradiction)
                    | (have := t6 (by omega); contradiction)
                    | (have := t7 (by omega); contradiction)
                    | (have := t8 (by omega); contradiction)
                    | (have := t9 (by omega); contradiction)
                    | (have := t10 (by omega); contradiction)
                    | (have := t11 (by omega) (by omega); contradiction)
                have h71 := not_f h68
                have p72 := dt h71
                refine cw_skip (seqK_n (cw_seq (cw_region (omi rfl rfl (ol rfl (lo_neq rfl rfl) ?_)))))
                refine omb rfl rfl (ow_sp (j := 2) rfl (fun h73 => ?_) (fun h73 => ?_))
                · have h74 := not_t h73
                  have p75 := df h74
                  refine ow1 (op1_g rfl h73 rfl (lo_move (v := .int _ _) rfl) ?_)
                  refine ow1 (op1_g rfl h73 rfl (lo_neq rfl rfl) ?_)
                  refine ol rfl (lo_pick_t (v := .bool _) rfl h73 rfl) (omb rfl rfl ?_)
                  refine ow1 (op1_g rfl h47 rfl (lo_fieldAddr rfl fl66_11) ?_)
                  refine ow1 (op1_g rfl h47 rfl (lo_loadA (i := 0) (vs := [_, _, _, _, _, _, _]) rfl ag28 sz28 rfl rfl rfl) ?_)
                  refine ow1 (op1_g rfl h47 rfl (lo_build (v := .agg #[_, _, _, _, _, _, _]) rfl (bd28)) ?_)
                  refine ow1 (op1_prg rfl h47 (r13_Same _ d.mail d_mail_head_a d_mail_head_c d_mail_head_h (by simp only [Mail.wf]; first | omega | (simp; done) | (simp; omega)) (⟨0, [], [], [], [], 0, 0⟩ : Mail) none 0 slh_nil (by simp only [Mail.wf]; first | omega | (simp; done) | (simp; omega))) (en_f cb129 rfl) rfl ?_)
                  refine ow1 (op1_g rfl h47 rfl (lo_not rfl) ?_)
                  refine ol rfl (lo_pick_t (v := .bool _) rfl h47 rfl) (oab rfl rfl (ow_nil (seqK_n (cw_ret (fnK_r (res1 rfl (rv_t (v := .bool _) rfl)) (.refl _) ?_)))))
                  refine congrArg Value.bool (congrArg (fun b => !b) ?_)
                  rw [Bool.eq_iff_iff]
                  simp only [decide_eq_true_eq]
                  constructor
                  · intro hm; exact told_iff.2 ⟨(by intros; first | assumption | omega), (by intros; first | assumption | omega), (by intros; first | assumption | omega), (by intros; first | assumption | omega), (by intros; first | assumption | omega), (by intros; first | assumption | omega), (by intros; first | assumption | omega), (by intros; first | assumption | omega), (by intros; first | assumption | omega), (by intros; first | assumption | omega), fun _ _ => hm⟩
                  intro hh; obtain ⟨_, _, _, _, _, _, _, _, _, _, t11⟩ := told_iff.1 hh; exact t11 (by omega) (by omega)
                have h76 := not_f h73
                have p77 := dt h76
                refine og rfl h73 rfl (og rfl h73 rfl (ol rfl (lo_pick_f (v := .bool _) rfl h73 rfl) (omb rfl rfl (og rfl rfl rfl (og rfl rfl rfl ?_)))))
                refine og rfl rfl rfl (og rfl rfl rfl (og rfl rfl rfl (ol rfl (lo_pick_f (v := .bool _) rfl rfl rfl) (oab rfl rfl (ow_nil ?_)))))
                refine seqK_n (cw_ret (fnK_r (res1 rfl (rv_t (v := .bool _) rfl)) (.refl _) ?_))
                exact congrArg Value.bool (spare_f (told_iff.2 ⟨(by intros; first | assumption | omega), (by intros; first | assumption | omega), (by intros; first | assumption | omega), (by intros; first | assumption | omega), (by intros; first | assumption | omega), (by intros; first | assumption | omega), (by intros; first | assumption | omega), (by intros; first | assumption | omega), (by intros; first | assumption | omega), (by intros; first | assumption | omega), (by intros; first | assumption | omega)⟩))
              have h78 := not_f h60
              have p79 := dt h78
              refine og rfl h60 rfl (og rfl h60 rfl (og rfl h60 rfl (og rfl h60 rfl ?_)))
              refine ow1 (op1_gx (j := 19) rfl rfl ?_)
              refine ow1 (op1_gx (j := 19) rfl rfl ?_)
              refine ow1 (op1_gx (j := 19) rfl rfl ?_)
              refine og rfl h60 rfl ?_
              refine ow1 (op1_g rfl h55 rfl (lo_pick_f (v := .bool _) rfl h60 rfl) ?_)
              refine ol rfl (lo_pick_f (v := .bool _) rfl h55 rfl) (ow_nil (seqK_n (cw_cond_f rfl rfl (cw_skip (seqK_n ?_)))))
              refine cw_seq (cw_region (omi rfl rfl (ol rfl (lo_neq rfl rfl) (omb rfl rfl ?_))))
              refine ow1 (op1_g rfl (by rw [(fd (by omega))] <;> rfl) rfl (lo_move (v := .int _ _) rfl) ?_)
              refine ow1 (op1_g rfl (by rw [(fd (by omega))] <;> rfl) rfl (lo_neq rfl rfl) ?_)
              refine ol rfl (lo_pick_t (v := .bool _) rfl (by rw [(fd (by omega))] <;> rfl) rfl) (omb rfl rfl ?_)
              refine ow1 (op1_g rfl h47 rfl (lo_fieldAddr rfl fl66_11) ?_)
              refine ow1 (op1_g rfl h47 rfl (lo_loadA (i := 0) (vs := [_, _, _, _, _, _, _]) rfl ag28 sz28 rfl rfl rfl) ?_)
              refine ow1 (op1_g rfl h47 rfl (lo_build (v := .agg #[_, _, _, _, _, _, _]) rfl (bd28)) ?_)
              refine ow1 (op1_prg rfl h47 (r13_Same _ d.mail d_mail_head_a d_mail_head_c d_mail_head_h (by simp only [Mail.wf]; first | omega | (simp; done) | (simp; omega)) (⟨0, [], [], [], [], 0, 0⟩ : Mail) none 0 slh_nil (by simp only [Mail.wf]; first | omega | (simp; done) | (simp; omega))) (en_f cb129 rfl) rfl ?_)
              refine ow1 (op1_g rfl h47 rfl (lo_not rfl) ?_)
              refine ol rfl (lo_pick_t (v := .bool _) rfl h47 rfl) (oab rfl rfl (ow_nil (seqK_n (cw_ret (fnK_r (res1 rfl (rv_t (v := .bool _) rfl)) (.refl _) ?_)))))
              refine congrArg Value.bool (congrArg (fun b => !b) ?_)
              rw [Bool.eq_iff_iff]
              simp only [decide_eq_true_eq]
              constructor
              · intro hm; exact told_iff.2 ⟨(by intros; first | assumption | omega), (by intros; first | assumption | omega), (by intros; first | assumption | omega), (by intros; first | assumption | omega), (by intros; first | assumption | omega), (by intros; first | assumption | omega), (by intros; first | assumption | omega), (by intros; first | assumption | omega), (by intros; first | assumption | omega), (by intros; first | assumption | omega), fun _ _ => hm⟩
              intro hh; obtain ⟨_, _, _, _, _, _, _, _, _, _, t11⟩ := told_iff.1 hh; exact t11 (by omega) (by omega)
            have h80 := not_f h47
            have p81 := dt h80
            refine og rfl h47 rfl (og rfl h47 rfl (og rfl h47 rfl (og rfl h47 rfl ?_)))
            refine ow1 (op1_gx (j := 6) rfl rfl ?_)
            refine ow1 (op1_gx (j := 6) rfl rfl ?_)
            refine ow1 (op1_gx (j := 6) rfl rfl ?_)
            refine og rfl h47 rfl (ol rfl (lo_pick_f (v := .bool _) rfl h47 rfl) (omb rfl rfl ?_))
            refine ow1 (op1_g rfl rfl rfl (lo_move (v := .int _ _) rfl) ?_)
            refine ow1 (op1_g rfl rfl rfl (lo_neq rfl rfl) ?_)
            refine ow1 (op1_g rfl rfl rfl (lo_move (v := .bool _) rfl) ?_)
            refine ow1 (op1_g rfl (by rw [(fd (by omega))] <;> rfl) rfl (lo_fieldAddr rfl fl66_9) ?_)
            refine ow1 (op1_g rfl (by rw [(fd (by omega))] <;> rfl) rfl (lo_load1 (i := 0) (v := .int _ _) rfl ag5 rfl rfl) ?_)
            refine ow1 (op1_g rfl (by rw [(fd (by omega))] <;> rfl) rfl (lo_neq rfl rfl) ?_)
            refine ow1 (op1_g rfl (by rw [(fd (by omega))] <;> rfl) rfl (lo_move (v := .bool _) rfl) ?_)
            refine ow_sp (j := 19) rfl (fun h82 => ?_) (fun h82 => ?_)
            · have h83 := not_t h82
              have p84 := df h83
              refine og rfl h82 rfl (og rfl h82 rfl (og rfl h82 rfl ?_))
              refine ow1 (op1_g rfl (by rw [(fd (by omega))] <;> rfl) rfl (lo_pick_t (v := .bool _) rfl h82 rfl) ?_)
              refine ow1 (op1_g rfl rfl rfl (lo_pick_t (v := .bool _) rfl (by rw [(fd (by omega))] <;> rfl) rfl) ?_)
              refine ol rfl (lo_pick_f (v := .bool _) rfl rfl rfl) (ow_nil (seqK_n (cw_cond_t rfl rfl (cw_seq (cw_region ?_)))))
              refine oab rfl rfl (ow_nil (seqK_n (cw_ret (seqK_r (fnK_r (res1 rfl (rv_t (v := .bool _) rfl)) (.refl _) ?_)))))
              refine congrArg Value.bool (spare_t fun hh => ?_)
              obtain ⟨t1, t2, t3, t4, t5, t6, t7, t8, t9, t10, t11⟩ := told_iff.1 hh
              first
                | (have := t1 (by omega); contradiction)
                | (have := t2 (by omega); contradiction)
                | (have := t3 (by omega) (by omega); contradiction)
                | (have := t4 (by omega) (by omega) (by omega) (by omega); contradiction)
                | (have := t5 (by omega); contradiction)
                | (have := t6 (by omega); contradiction)
                | (have := t7 (by omega); contradiction)
                | (have := t8 (by omega); contradiction)
                | (have := t9 (by omega); contradiction)
                | (have := t10 (by omega); contradiction)
                | (have := t11 (by omega) (by omega); contradiction)
            have h85 := not_f h82
            have p86 := dt h85
            refine ow1 (op1_g rfl h82 rfl (lo_fieldAddr rfl fl66_12) ?_)
            refine ow1 (op1_g rfl h82 rfl (lo_load1 (i := 0) (v := str _) rfl ag9 rfl rfl) ?_)
            refine ow1 (op1_g rfl h82 rfl (lo_sneq rfl rfl) ?_)
            refine ow1 (op1_g rfl (by rw [(fd (by omega))] <;> rfl) rfl (lo_pick_f (v := .bool _) rfl h82 rfl) ?_)
            refine ow1 (op1_g rfl rfl rfl (lo_pick_t (v := .bool _) rfl (by rw [(fd (by omega))] <;> rfl) rfl) ?_)
            refine ol rfl (lo_pick_f (v := .bool _) rfl rfl rfl) (ow_nil (seqK_n (cw_cond rfl (fun h87 => ?_) (fun h87 => ?_))))
            · have h88 := not_t h87
              have p89 := df h88
              refine cw_seq (cw_region (oab rfl rfl (ow_nil (seqK_n (cw_ret ?_)))))
              refine seqK_r (fnK_r (res1 rfl (rv_t (v := .bool _) rfl)) (.refl _) ?_)
              refine congrArg Value.bool (spare_t fun hh => ?_)
              obtain ⟨t1, t2, t3, t4, t5, t6, t7, t8, t9, t10, t11⟩ := told_iff.1 hh
              first
                | (have := t1 (by omega); contradiction)
                | (have := t2 (by omega); contradiction)
                | (have := t3 (by omega) (by omega); contradiction)
                | (have := t4 (by omega) (by omega) (by omega) (by omega); contradiction)
                | (have := t5 (by omega); contradiction)
                | (have := t6 (by omega); contradiction)
                | (have := t7 (by omega); contradiction)
                | (have := t8 (by omega); contradiction)
                | (have := t9 (by omega); contradiction)
                | (have := t10 (by omega); contradiction)
                | (have := t11 (by omega) (by omega); contradiction)
            have h90 := not_f h87
            have p91 := dt h90
            refine cw_skip (seqK_n (cw_seq (cw_region (omi rfl rfl (ol rfl (lo_neq rfl rfl) ?_)))))
            refine omb rfl rfl ?_
            refine ow1 (op1_g rfl (by rw [(fd (by omega))] <;> rfl) rfl (lo_move (v := .int _ _) rfl) ?_)
            refine ow1 (op1_g rfl (by rw [(fd (by omega))] <;> rfl) rfl (lo_neq rfl rfl) ?_)
            refine ol rfl (lo_pick_t (v := .bool _) rfl (by rw [(fd (by omega))] <;> rfl) rfl) (omb rfl rfl (og rfl h47 rfl (og rfl h47 rfl (og rfl h47 rfl (og rfl h47 rfl ?_)))))
            refine og rfl h47 rfl (ol rfl (lo_pick_f (v := .bool _) rfl h47 rfl) (oab rfl rfl (ow_nil (seqK_n (cw_ret ?_)))))
            refine fnK_r (res1 rfl (rv_t (v := .bool _) rfl)) (.refl _) ?_
            exact congrArg Value.bool (spare_f (told_iff.2 ⟨(by intros; first | assumption | omega), (by intros; first | assumption | omega), (by intros; first | assumption | omega), (by intros; first | assumption | omega), (by intros; first | assumption | omega), (by intros; first | assumption | omega), (by intros; first | assumption | omega), (by intros; first | assumption | omega), (by intros; first | assumption | omega), (by intros; first | assumption | omega), (by intros; first | assumption | omega)⟩))
          have h92 := not_f h29
          have p93 := dt h92
          refine og rfl h29 rfl (og rfl h29 rfl (og rfl h29 rfl (ol rfl (lo_pick_f (v := .bool _) rfl h29 rfl) (omb rfl rfl ?_))))
          refine ow1 (op1_g rfl rfl rfl (lo_move (v := .int _ _) rfl) ?_)
          refine ow1 (op1_g rfl rfl rfl (lo_neq rfl rfl) ?_)
          refine ow1 (op1_g rfl rfl rfl (lo_move (v := .bool _) rfl) ?_)
          refine ow_sp (j := 11) rfl (fun h94 => ?_) (fun h94 => ?_)
          · have h95 := not_t h94
            have p96 := df h95
            refine ow1 (op1_g rfl h94 rfl (lo_fieldAddr rfl fl66_6) ?_)
            refine ow1 (op1_g rfl h94 rfl (lo_load1 (i := 0) (v := .int _ _) rfl ag25 rfl rfl) ?_)
            refine ow1 (op1_g rfl h94 rfl (lo_neq rfl rfl) ?_)
            refine ow1 (op1_g rfl h94 rfl (lo_move (v := .bool _) rfl) ?_)
            refine ow_sp (j := 15) rfl (fun h97 => ?_) (fun h97 => ?_)
            · have h98 := not_t h97
              have p99 := df h98
              refine og rfl h97 rfl (og rfl h97 rfl (og rfl h97 rfl ?_))
              refine ow1 (op1_g rfl h94 rfl (lo_pick_t (v := .bool _) rfl h97 rfl) ?_)
              refine ow1 (op1_g rfl rfl rfl (lo_pick_t (v := .bool _) rfl h94 rfl) ?_)
              refine ol rfl (lo_pick_f (v := .bool _) rfl rfl rfl) (ow_nil (seqK_n (cw_cond_t rfl rfl (cw_seq (cw_region ?_)))))
              refine oab rfl rfl (ow_nil (seqK_n (cw_ret (seqK_r (fnK_r (res1 rfl (rv_t (v := .bool _) rfl)) (.refl _) ?_)))))
              refine congrArg Value.bool (spare_t fun hh => ?_)
              obtain ⟨t1, t2, t3, t4, t5, t6, t7, t8, t9, t10, t11⟩ := told_iff.1 hh
              first
                | (have := t1 (by omega); contradiction)
                | (have := t2 (by omega); contradiction)
                | (have := t3 (by omega) (by omega); contradiction)
                | (have := t4 (by omega) (by omega) (by omega) (by omega); contradiction)
                | (have := t5 (by omega); contradiction)
                | (have := t6 (by omega); contradiction)
                | (have := t7 (by omega); contradiction)
                | (have := t8 (by omega); contradiction)
                | (have := t9 (by omega); contradiction)
                | (have := t10 (by omega); contradiction)
                | (have := t11 (by omega) (by omega); contradiction)
            have h100 := not_f h97
            have p101 := dt h100
            refine ow1 (op1_g rfl h97 rfl (lo_fieldAddr rfl fl66_7) ?_)
            refine ow1 (op1_g rfl h97 rfl (lo_load1 (i := 0) (v := .int _ _) rfl ag5 rfl rfl) ?_)
            refine ow1 (op1_g rfl h97 rfl (lo_neq rfl rfl) ?_)
            refine ow1 (op1_g rfl h94 rfl (lo_pick_f (v := .bool _) rfl h97 rfl) ?_)
            refine ow1 (op1_g rfl rfl rfl (lo_pick_t (v := .bool _) rfl h94 rfl) ?_)
            refine ol rfl (lo_pick_f (v := .bool _) rfl rfl rfl) (ow_nil (seqK_n (cw_cond rfl (fun h102 => ?_) (fun h102 => ?_))))
            · have h103 := not_t h102
              have p104 := df h103
              refine cw_seq (cw_region (oab rfl rfl (ow_nil (seqK_n (cw_ret ?_)))))
              refine seqK_r (fnK_r (res1 rfl (rv_t (v := .bool _) rfl)) (.refl _) ?_)
              refine congrArg Value.bool (spare_t fun hh => ?_)
              obtain ⟨t1, t2, t3, t4, t5, t6, t7, t8, t9, t10, t11⟩ := told_iff.1 hh
              first
                | (have := t1 (by omega); contradiction)
                | (have := t2 (by omega); contradiction)
                | (have := t3 (by omega) (by omega); contradiction)
                | (have := t4 (by omega) (by omega) (by omega) (by omega); contradiction)
                | (have := t5 (by omega); contradiction)
                | (have := t6 (by omega); contradiction)
                | (have := t7 (by omega); contradiction)
                | (have := t8 (by omega); contradiction)
                | (have := t9 (by omega); contradiction)
                | (have := t10 (by omega); contradiction)
                | (have := t11 (by omega) (by omega); contradiction)
            have h105 := not_f h102
            have p106 := dt h105
            refine cw_skip (seqK_n (cw_seq (cw_seq (cw_region (omi rfl rfl ?_)))))
            refine ol rfl (lo_neq rfl rfl) (omb rfl rfl ?_)
            refine ow1 (op1_g rfl (by rw [(fd (by omega))] <;> rfl) rfl (lo_fieldAddr rfl fl66_8) ?_)
            refine ow1 (op1_g rfl (by rw [(fd (by omega))] <;> rfl) rfl (lo_load1 (i := 0) (v := .int _ _) rfl ag5 rfl rfl) ?_)
            refine ow1 (op1_g rfl (by rw [(fd (by omega))] <;> rfl) rfl (lo_neq rfl rfl) ?_)
            refine ow1 (op1_g rfl (by rw [(fd (by omega))] <;> rfl) rfl (lo_move (v := .bool _) rfl) ?_)
            refine ow_sp (j := 6) rfl (fun h107 => ?_) (fun h107 => ?_)
            · have h108 := not_t h107
              have p109 := df h108
              refine og rfl h107 rfl (og rfl h107 rfl (og rfl h107 rfl ?_))
              refine ow1 (op1_g rfl (by rw [(fd (by omega))] <;> rfl) rfl (lo_pick_t (v := .bool _) rfl h107 rfl) ?_)
              refine ol rfl (lo_pick_t (v := .bool _) rfl (by rw [(fd (by omega))] <;> rfl) rfl) (omb rfl rfl (og rfl rfl rfl (og rfl rfl rfl (og rfl rfl rfl ?_))))
              refine ow1 (op1_gx (j := 15) rfl rfl ?_)
              refine ow1 (op1_gx (j := 15) rfl rfl ?_)
              refine ow1 (op1_gx (j := 15) rfl rfl ?_)
              refine ow1 (op1_gx (j := 15) rfl rfl ?_)
              refine ow1 (op1_gx (j := 19) rfl rfl ?_)
              refine ow1 (op1_gx (j := 19) rfl rfl ?_)
              refine ow1 (op1_gx (j := 19) rfl rfl ?_)
              refine ow1 (op1_gx (j := 15) rfl rfl ?_)
              refine og rfl rfl rfl (ol rfl (lo_pick_t (v := .bool _) rfl rfl rfl) (ow_nil (seqK_n (cw_cond_t rfl rfl (cw_seq ?_)))))
              refine cw_region (oab rfl rfl (ow_nil (seqK_n (cw_ret (seqK_r ?_)))))
              refine fnK_r (res1 rfl (rv_t (v := .bool _) rfl)) (.refl _) ?_
              refine congrArg Value.bool (spare_t fun hh => ?_)
              obtain ⟨t1, t2, t3, t4, t5, t6, t7, t8, t9, t10, t11⟩ := told_iff.1 hh
              first
                | (have := t1 (by omega); contradiction)
                | (have := t2 (by omega); contradiction)
                | (have := t3 (by omega) (by omega); contradiction)
                | (have := t4 (by omega) (by omega) (by omega) (by omega); contradiction)
                | (have := t5 (by omega); contradiction)
                | (have := t6 (by omega); contradiction)
                | (have := t7 (by omega); contradiction)
                | (have := t8 (by omega); contradiction)
                | (have := t9 (by omega); contradiction)
                | (have := t10 (by omega); contradiction)
                | (have := t11 (by omega) (by omega); contradiction)
            have h110 := not_f h107
            have p111 := dt h110
            refine ow1 (op1_g rfl h107 rfl (lo_fieldAddr rfl fl66_10) ?_)
            refine ow1 (op1_g rfl h107 rfl (lo_load1 (i := 0) (v := .int _ _) rfl ag25 rfl rfl) ?_)
            refine ow1 (op1_g rfl h107 rfl (lo_neq rfl rfl) ?_)
            refine ow1 (op1_g rfl (by rw [(fd (by omega))] <;> rfl) rfl (lo_pick_f (v := .bool _) rfl h107 rfl) ?_)
            refine ol rfl (lo_pick_t (v := .bool _) rfl (by rw [(fd (by omega))] <;> rfl) rfl) (omb rfl rfl (ow_sp (j := 12) rfl (fun h112 => ?_) (fun h112 => ?_)))
            · have h113 := not_t h112
              have p114 := df h113
              refine og rfl h112 rfl (og rfl h112 rfl (og rfl h112 rfl ?_))
              refine ow1 (op1_gx (j := 15) rfl rfl ?_)
              refine ow1 (op1_gx (j := 15) rfl rfl ?_)
              refine ow1 (op1_gx (j := 15) rfl rfl ?_)
              refine ow1 (op1_gx (j := 15) rfl rfl ?_)
              refine ow1 (op1_gx (j := 19) rfl rfl ?_)
              refine ow1 (op1_gx (j := 19) rfl rfl ?_)
              refine ow1 (op1_gx (j := 19) rfl rfl ?_)
              refine ow1 (op1_gx (j := 15) rfl rfl ?_)
              refine og rfl h112 rfl (ol rfl (lo_pick_t (v := .bool _) rfl h112 rfl) (ow_nil (seqK_n (cw_cond_t rfl rfl (cw_seq ?_)))))
              refine cw_region (oab rfl rfl (ow_nil (seqK_n (cw_ret (seqK_r ?_)))))
              refine fnK_r (res1 rfl (rv_t (v := .bool _) rfl)) (.refl _) ?_
              refine congrArg Value.bool (spare_t fun hh => ?_)
              obtain ⟨t1, t2, t3, t4, t5, t6, t7, t8, t9, t10, t11⟩ := told_iff.1 hh
              first
                | (have := t1 (by omega); contradiction)
                | (have := t2 (by omega); contradiction)
                | (have := t3 (by omega) (by omega); contradiction)
                | (have := t4 (by omega) (by omega) (by omega) (by omega); contradiction)
                | (have := t5 (by omega); contradiction)
                | (have := t6 (by omega); contradiction)
                | (have := t7 (by omega); contradiction)
                | (have := t8 (by omega); contradiction)
                | (have := t9 (by omega); contradiction)
                | (have := t10 (by omega); contradiction)
                | (have := t11 (by omega) (by omega); contradiction)
            have h115 := not_f h112
            have p116 := dt h115
            refine ow1 (op1_g rfl h112 rfl (lo_move (v := .int _ _) rfl) ?_)
            refine ow1 (op1_g rfl h112 rfl (lo_neq rfl rfl) ?_)
            refine ow1 (op1_g rfl h112 rfl (lo_move (v := .bool _) rfl) ?_)
            refine ow1 (op1_g rfl (by rw [(fd (by omega))] <;> rfl) rfl (lo_fieldAddr rfl fl66_9) ?_)
            refine ow1 (op1_g rfl (by rw [(fd (by omega))] <;> rfl) rfl (lo_load1 (i := 0) (v := .int _ _) rfl ag5 rfl rfl) ?_)
            refine ow1 (op1_g rfl (by rw [(fd (by omega))] <;> rfl) rfl (lo_neq rfl rfl) ?_)
            refine ow1 (op1_g rfl (by rw [(fd (by omega))] <;> rfl) rfl (lo_move (v := .bool _) rfl) ?_)
            refine ow_sp (j := 19) rfl (fun h117 => ?_) (fun h117 => ?_)
            · have h118 := not_t h117
              have p119 := df h118
              refine og rfl h117 rfl (og rfl h117 rfl (og rfl h117 rfl ?_))
              refine ow1 (op1_g rfl (by rw [(fd (by omega))] <;> rfl) rfl (lo_pick_t (v := .bool _) rfl h117 rfl) ?_)
              refine ow1 (op1_g rfl h112 rfl (lo_pick_t (v := .bool _) rfl (by rw [(fd (by omega))] <;> rfl) rfl) ?_)
              refine ol rfl (lo_pick_f (v := .bool _) rfl h112 rfl) (ow_nil (seqK_n (cw_cond_t rfl rfl (cw_seq (cw_region ?_)))))
              refine oab rfl rfl (ow_nil (seqK_n (cw_ret (seqK_r (fnK_r (res1 rfl (rv_t (v := .bool _) rfl)) (.refl _) ?_)))))
              refine congrArg Value.bool (spare_t fun hh => ?_)
              obtain ⟨t1, t2, t3, t4, t5, t6, t7, t8, t9, t10, t11⟩ := told_iff.1 hh
              first
                | (have := t1 (by omega); contradiction)
                | (have := t2 (by omega); contradiction)
                | (have := t3 (by omega) (by omega); contradiction)
                | (have := t4 (by omega) (by omega) (by omega) (by omega); contradiction)
                | (have := t5 (by omega); contradiction)
                | (have := t6 (by omega); contradiction)
                | (have := t7 (by omega); contradiction)
                | (have := t8 (by omega); contradiction)
                | (have := t9 (by omega); contradiction)
                | (have := t10 (by omega); contradiction)
                | (have := t11 (by omega) (by omega); contradiction)
            have h120 := not_f h117
            have p121 := dt h120
            refine ow1 (op1_g rfl h117 rfl (lo_fieldAddr rfl fl66_12) ?_)
            refine ow1 (op1_g rfl h117 rfl (lo_load1 (i := 0) (v := str _) rfl ag9 rfl rfl) ?_)
            refine ow1 (op1_g rfl h117 rfl (lo_sneq rfl rfl) ?_)
            refine ow1 (op1_g rfl (by rw [(fd (by omega))] <;> rfl) rfl (lo_pick_f (v := .bool _) rfl h117 rfl) ?_)
            refine ow1 (op1_g rfl h112 rfl (lo_pick_t (v := .bool _) rfl (by rw [(fd (by omega))] <;> rfl) rfl) ?_)
            refine ol rfl (lo_pick_f (v := .bool _) rfl h112 rfl) (ow_nil (seqK_n (cw_cond rfl (fun h122 => ?_) (fun h122 => ?_))))
            · have h123 := not_t h122
              have p124 := df h123
              refine cw_seq (cw_region (oab rfl rfl (ow_nil (seqK_n (cw_ret ?_)))))
              refine seqK_r (fnK_r (res1 rfl (rv_t (v := .bool _) rfl)) (.refl _) ?_)
              refine congrArg Value.bool (spare_t fun hh => ?_)
              obtain ⟨t1, t2, t3, t4, t5, t6, t7, t8, t9, t10, t11⟩ := told_iff.1 hh
              first
                | (have := t1 (by omega); contradiction)
                | (have := t2 (by omega); contradiction)
                | (have := t3 (by omega) (by omega); contradiction)
                | (have := t4 (by omega) (by omega) (by omega) (by omega); contradiction)
                | (have := t5 (by omega); contradiction)
                | (have := t6 (by omega); contradiction)
                | (have := t7 (by omega); contradiction)
                | (have := t8 (by omega); contradiction)
                | (have := t9 (by omega); contradiction)
                | (have := t10 (by omega); contradiction)
                | (have := t11 (by omega) (by omega); contradiction)
            have h125 := not_f h122
            have p126 := dt h125
            refine cw_skip (seqK_n (cw_seq (cw_region (omi rfl rfl (ol rfl (lo_neq rfl rfl) ?_)))))
            refine omb rfl rfl ?_
            refine ow1 (op1_g rfl (by rw [(fd (by omega))] <;> rfl) rfl (lo_move (v := .int _ _) rfl) ?_)
            refine ow1 (op1_g rfl (by rw [(fd (by omega))] <;> rfl) rfl (lo_neq rfl rfl) ?_)
            refine ol rfl (lo_pick_t (v := .bool _) rfl (by rw [(fd (by omega))] <;> rfl) rfl) (omb rfl rfl ?_)
            refine ow1 (op1_g rfl (by rw [(fd (by omega))] <;> rfl) rfl (lo_fieldAddr rfl fl66_11) ?_)
            refine ow1 (op1_g rfl (by rw [(fd (by omega))] <;> rfl) rfl (lo_loadA (i := 0) (vs := [_, _, _, _, _, _, _]) rfl ag28 sz28 rfl rfl rfl) ?_)
            refine ow1 (op1_g rfl (by rw [(fd (by omega))] <;> rfl) rfl (lo_build (v := .agg #[_, _, _, _, _, _, _]) rfl (bd28)) ?_)
            refine ow1 (op1_prg rfl (by rw [(fd (by omega))] <;> rfl) (r13_Same _ d.mail d_mail_head_a d_mail_head_c d_mail_head_h (by simp only [Mail.wf]; first | omega | (simp; done) | (simp; omega)) (⟨0, [], [], [], [], 0, 0⟩ : Mail) none 0 slh_nil (by simp only [Mail.wf]; first | omega | (simp; done) | (simp; omega))) (en_f cb129 rfl) rfl ?_)
            refine ow1 (op1_g rfl (by rw [(fd (by omega))] <;> rfl) rfl (lo_not rfl) ?_)
            refine ol rfl (lo_pick_t (v := .bool _) rfl (by rw [(fd (by omega))] <;> rfl) rfl) (oab rfl rfl (ow_nil (seqK_n (cw_ret (fnK_r (res1 rfl (rv_t (v := .bool _) rfl)) (.refl _) ?_)))))
            refine congrArg Value.bool (congrArg (fun b => !b) ?_)
            rw [Bool.eq_iff_iff]
            simp only [decide_eq_true_eq]
            constructor
            · intro hm; exact told_iff.2 ⟨(by intros; first | assumption | omega), (by intros; first | assumption | omega), (by intros; first | assumption | omega), (by intros; first | assumption | omega), (by intros; first | assumption | omega), (by intros; first | assumption | omega), (by intros; first | assumption | omega), (by intros; first | assumption | omega), (by intros; first | assumption | omega), (by intros; first | assumption | omega), fun _ _ => hm⟩
            intro hh; obtain ⟨_, _, _, _, _, _, _, _, _, _, t11⟩ := told_iff.1 hh; exact t11 (by omega) (by omega)
          have h127 := not_f h94
          have p128 := dt h127
          refine og rfl h94 rfl (og rfl h94 rfl (og rfl h94 rfl (og rfl h94 rfl ?_)))
          refine ow1 (op1_gx (j := 15) rfl rfl ?_)
          refine ow1 (op1_gx (j := 15) rfl rfl ?_)
          refine ow1 (op1_gx (j := 15) rfl rfl ?_)
          refine og rfl h94 rfl ?_
          refine ow1 (op1_g rfl rfl rfl (lo_pick_f (v := .bool _) rfl h94 rfl) ?_)
          refine ol rfl (lo_pick_f (v := .bool _) rfl rfl rfl) (ow_nil (seqK_n (cw_cond_f rfl rfl (cw_skip (seqK_n ?_)))))
          refine cw_seq (cw_seq (cw_region (omi rfl rfl (ol rfl (lo_neq rfl rfl) (omb rfl rfl ?_)))))
          refine ow1 (op1_g rfl (by rw [(fd (by omega))] <;> rfl) rfl (lo_fieldAddr rfl fl66_8) ?_)
          refine ow1 (op1_g rfl (by rw [(fd (by omega))] <;> rfl) rfl (lo_load1 (i := 0) (v := .int _ _) rfl ag5 rfl rfl) ?_)
          refine ow1 (op1_g rfl (by rw [(fd (by omega))] <;> rfl) rfl (lo_neq rfl rfl) ?_)
          refine ow1 (op1_g rfl (by rw [(fd (by omega))] <;> rfl) rfl (lo_move (v := .bool _) rfl) ?_)
          refine ow_sp (j := 6) rfl (fun h129 => ?_) (fun h129 => ?_)
          · have h130 := not_t h129
            have p131 := df h130
            refine og rfl h129 rfl (og rfl h129 rfl (og rfl h129 rfl ?_))
            refine ow1 (op1_g rfl (by rw [(fd (by omega))] <;> rfl) rfl (lo_pick_t (v := .bool _) rfl h129 rfl) ?_)
            refine ol rfl (lo_pick_t (v := .bool _) rfl (by rw [(fd (by omega))] <;> rfl) rfl) (omb rfl rfl (og rfl rfl rfl (og rfl rfl rfl (og rfl rfl rfl ?_))))
            refine ow1 (op1_gx (j := 15) rfl rfl ?_)
            refine ow1 (op1_gx (j := 15) rfl rfl ?_)
            refine ow1 (op1_gx (j := 15) rfl rfl ?_)
            refine ow1 (op1_gx (j := 15) rfl rfl ?_)
            refine ow1 (op1_gx (j := 19) rfl rfl ?_)
            refine ow1 (op1_gx (j := 19) rfl rfl ?_)
            refine ow1 (op1_gx (j := 19) rfl rfl ?_)
            refine ow1 (op1_gx (j := 15) rfl rfl ?_)
            refine og rfl rfl rfl (ol rfl (lo_pick_t (v := .bool _) rfl rfl rfl) (ow_nil (seqK_n (cw_cond_t rfl rfl (cw_seq ?_)))))
            refine cw_region (oab rfl rfl (ow_nil (seqK_n (cw_ret (seqK_r ?_)))))
            refine fnK_r (res1 rfl (rv_t (v := .bool _) rfl)) (.refl _) ?_
            refine congrArg Value.bool (spare_t fun hh => ?_)
            obtain ⟨t1, t2, t3, t4, t5, t6, t7, t8, t9, t10, t11⟩ := told_iff.1 hh
            first
              | (have := t1 (by omega); contradiction)
              | (have := t2 (by omega); contradiction)
              | (have := t3 (by omega) (by omega); contradiction)
              | (have := t4 (by omega) (by omega) (by omega) (by omega); contradiction)
              | (have := t5 (by omega); contradiction)
              | (have := t6 (by omega); contradiction)
              | (have := t7 (by omega); contradiction)
              | (have := t8 (by omega); contradiction)
              | (have := t9 (by omega); contradiction)
              | (have := t10 (by omega); contradiction)
              | (have := t11 (by omega) (by omega); contradiction)
          have h132 := not_f h129
          have p133 := dt h132
          refine ow1 (op1_g rfl h129 rfl (lo_fieldAddr rfl fl66_10) ?_)
          refine ow1 (op1_g rfl h129 rfl (lo_load1 (i := 0) (v := .int _ _) rfl ag25 rfl rfl) ?_)
          refine ow1 (op1_g rfl h129 rfl (lo_neq rfl rfl) ?_)
          refine ow1 (op1_g rfl (by rw [(fd (by omega))] <;> rfl) rfl (lo_pick_f (v := .bool _) rfl h129 rfl) ?_)
          refine ol rfl (lo_pick_t (v := .bool _) rfl (by rw [(fd (by omega))] <;> rfl) rfl) (omb rfl rfl (ow_sp (j := 12) rfl (fun h134 => ?_) (fun h134 => ?_)))
          · have h135 := not_t h134
            have p136 := df h135
            refine og rfl h134 rfl (og rfl h134 rfl (og rfl h134 rfl ?_))
            refine ow1 (op1_gx (j := 15) rfl rfl ?_)
            refine ow1 (op1_gx (j := 15) rfl rfl ?_)
            refine ow1 (op1_gx (j := 15) rfl rfl ?_)
            refine ow1 (op1_gx (j := 15) rfl rfl ?_)
            refine ow1 (op1_gx (j := 19) rfl rfl ?_)
            refine ow1 (op1_gx (j := 19) rfl rfl ?_)
            refine ow1 (op1_gx (j := 19) rfl rfl ?_)
            refine ow1 (op1_gx (j := 15) rfl rfl ?_)
            refine og rfl h134 rfl (ol rfl (lo_pick_t (v := .bool _) rfl h134 rfl) (ow_nil (seqK_n (cw_cond_t rfl rfl (cw_seq ?_)))))
            refine cw_region (oab rfl rfl (ow_nil (seqK_n (cw_ret (seqK_r ?_)))))
            refine fnK_r (res1 rfl (rv_t (v := .bool _) rfl)) (.refl _) ?_
            refine congrArg Value.bool (spare_t fun hh => ?_)
            obtain ⟨t1, t2, t3, t4, t5, t6, t7, t8, t9, t10, t11⟩ := told_iff.1 hh
            first
              | (have := t1 (by omega); contradiction)
              | (have := t2 (by omega); contradiction)
              | (have := t3 (by omega) (by omega); contradiction)
              | (have := t4 (by omega) (by omega) (by omega) (by omega); contradiction)
              | (have := t5 (by omega); contradiction)
              | (have := t6 (by omega); contradiction)
              | (have := t7 (by omega); contradiction)
              | (have := t8 (by omega); contradiction)
              | (have := t9 (by omega); contradiction)
              | (have := t10 (by omega); contradiction)
              | (have := t11 (by omega) (by omega); contradiction)
          have h137 := not_f h134
          have p138 := dt h137
          refine ow1 (op1_g rfl h134 rfl (lo_move (v := .int _ _) rfl) ?_)
          refine ow1 (op1_g rfl h134 rfl (lo_neq rfl rfl) ?_)
          refine ow1 (op1_g rfl h134 rfl (lo_move (v := .bool _) rfl) ?_)
          refine ow1 (op1_g rfl (by rw [(fd (by omega))] <;> rfl) rfl (lo_fieldAddr rfl fl66_9) ?_)
          refine ow1 (op1_g rfl (by rw [(fd (by omega))] <;> rfl) rfl (lo_load1 (i := 0) (v := .int _ _) rfl ag5 rfl rfl) ?_)
          refine ow1 (op1_g rfl (by rw [(fd (by omega))] <;> rfl) rfl (lo_neq rfl rfl) ?_)
          refine ow1 (op1_g rfl (by rw [(fd (by omega))] <;> rfl) rfl (lo_move (v := .bool _) rfl) ?_)
          refine ow_sp (j := 19) rfl (fun h139 => ?_) (fun h139 => ?_)
          · have h140 := not_t h139
            have p141 := df h140
            refine og rfl h139 rfl (og rfl h139 rfl (og rfl h139 rfl ?_))
            refine ow1 (op1_g rfl (by rw [(fd (by omega))] <;> rfl) rfl (lo_pick_t (v := .bool _) rfl h139 rfl) ?_)
            refine ow1 (op1_g rfl h134 rfl (lo_pick_t (v := .bool _) rfl (by rw [(fd (by omega))] <;> rfl) rfl) ?_)
            refine ol rfl (lo_pick_f (v := .bool _) rfl h134 rfl) (ow_nil (seqK_n (cw_cond_t rfl rfl (cw_seq (cw_region ?_)))))
            refine oab rfl rfl (ow_nil (seqK_n (cw_ret (seqK_r (fnK_r (res1 rfl (rv_t (v := .bool _) rfl)) (.refl _) ?_)))))
            refine congrArg Value.bool (spare_t fun hh => ?_)
            obtain ⟨t1, t2, t3, t4, t5, t6, t7, t8, t9, t10, t11⟩ := told_iff.1 hh
            first
              | (have := t1 (by omega); contradiction)
              | (have := t2 (by omega); contradiction)
              | (have := t3 (by omega) (by omega); contradiction)
              | (have := t4 (by omega) (by omega) (by omega) (by omega); contradiction)
              | (have := t5 (by omega); contradiction)
              | (have := t6 (by omega); contradiction)
              | (have := t7 (by omega); contradiction)
              | (have := t8 (by omega); contradiction)
              | (have := t9 (by omega); contradiction)
              | (have := t10 (by omega); contradiction)
              | (have := t11 (by omega) (by omega); contradiction)
          have h142 := not_f h139
          have p143 := dt h142
          refine ow1 (op1_g rfl h139 rfl (lo_fieldAddr rfl fl66_12) ?_)
          refine ow1 (op1_g rfl h139 rfl (lo_load1 (i := 0) (v := str _) rfl ag9 rfl rfl) ?_)
          refine ow1 (op1_g rfl h139 rfl (lo_sneq rfl rfl) ?_)
          refine ow1 (op1_g rfl (by rw [(fd (by omega))] <;> rfl) rfl (lo_pick_f (v := .bool _) rfl h139 rfl) ?_)
          refine ow1 (op1_g rfl h134 rfl (lo_pick_t (v := .bool _) rfl (by rw [(fd (by omega))] <;> rfl) rfl) ?_)
          refine ol rfl (lo_pick_f (v := .bool _) rfl h134 rfl) (ow_nil (seqK_n (cw_cond rfl (fun h144 => ?_) (fun h144 => ?_))))
          · have h145 := not_t h144
            have p146 := df h145
            refine cw_seq (cw_region (oab rfl rfl (ow_nil (seqK_n (cw_ret ?_)))))
            refine seqK_r (fnK_r (res1 rfl (rv_t (v := .bool _) rfl)) (.refl _) ?_)
            refine congrArg Value.bool (spare_t fun hh => ?_)
            obtain ⟨t1, t2, t3, t4, t5, t6, t7, t8, t9, t10, t11⟩ := told_iff.1 hh
            first
              | (have := t1 (by omega); contradiction)
              | (have := t2 (by omega); contradiction)
              | (have := t3 (by omega) (by omega); contradiction)
              | (have := t4 (by omega) (by omega) (by omega) (by omega); contradiction)
              | (have := t5 (by omega); contradiction)
              | (have := t6 (by omega); contradiction)
              | (have := t7 (by omega); contradiction)
              | (have := t8 (by omega); contradiction)
              | (have := t9 (by omega); contradiction)
              | (have := t10 (by omega); contradiction)
              | (have := t11 (by omega) (by omega); contradiction)
          have h147 := not_f h144
          have p148 := dt h147
          refine cw_skip (seqK_n (cw_seq (cw_region (omi rfl rfl (ol rfl (lo_neq rfl rfl) ?_)))))
          refine omb rfl rfl ?_
          refine ow1 (op1_g rfl (by rw [(fd (by omega))] <;> rfl) rfl (lo_move (v := .int _ _) rfl) ?_)
          refine ow1 (op1_g rfl (by rw [(fd (by omega))] <;> rfl) rfl (lo_neq rfl rfl) ?_)
          refine ol rfl (lo_pick_t (v := .bool _) rfl (by rw [(fd (by omega))] <;> rfl) rfl) (omb rfl rfl ?_)
          refine ow1 (op1_g rfl (by rw [(fd (by omega))] <;> rfl) rfl (lo_fieldAddr rfl fl66_11) ?_)
          refine ow1 (op1_g rfl (by rw [(fd (by omega))] <;> rfl) rfl (lo_loadA (i := 0) (vs := [_, _, _, _, _, _, _]) rfl ag28 sz28 rfl rfl rfl) ?_)
          refine ow1 (op1_g rfl (by rw [(fd (by omega))] <;> rfl) rfl (lo_build (v := .agg #[_, _, _, _, _, _, _]) rfl (bd28)) ?_)
          refine ow1 (op1_prg rfl (by rw [(fd (by omega))] <;> rfl) (r13_Same _ d.mail d_mail_head_a d_mail_head_c d_mail_head_h (by simp only [Mail.wf]; first | omega | (simp; done) | (simp; omega)) (⟨0, [], [], [], [], 0, 0⟩ : Mail) none 0 slh_nil (by simp only [Mail.wf]; first | omega | (simp; done) | (simp; omega))) (en_f cb129 rfl) rfl ?_)
          refine ow1 (op1_g rfl (by rw [(fd (by omega))] <;> rfl) rfl (lo_not rfl) ?_)
          refine ol rfl (lo_pick_t (v := .bool _) rfl (by rw [(fd (by omega))] <;> rfl) rfl) (oab rfl rfl (ow_nil (seqK_n (cw_ret (fnK_r (res1 rfl (rv_t (v := .bool _) rfl)) (.refl _) ?_)))))
          refine congrArg Value.bool (congrArg (fun b => !b) ?_)
          rw [Bool.eq_iff_iff]
          simp only [decide_eq_true_eq]
          constructor
          · intro hm; exact told_iff.2 ⟨(by intros; first | assumption | omega), (by intros; first | assumption | omega), (by intros; first | assumption | omega), (by intros; first | assumption | omega), (by intros; first | assumption | omega), (by intros; first | assumption | omega), (by intros; first | assumption | omega), (by intros; first | assumption | omega), (by intros; first | assumption | omega), (by intros; first | assumption | omega), fun _ _ => hm⟩
          intro hh; obtain ⟨_, _, _, _, _, _, _, _, _, _, t11⟩ := told_iff.1 hh; exact t11 (by omega) (by omega)
        have h149 := not_f h21
        have p150 := dt h149
        refine og rfl h21 rfl (og rfl h21 rfl (og rfl h21 rfl (og rfl h21 rfl (og rfl h21 rfl (ol rfl (lo_pick_f (v := .bool _) rfl h21 rfl) ?_)))))
        refine ow_nil (seqK_n (cw_cond_f rfl rfl (cw_skip (seqK_n (cw_seq ?_)))))
        refine cw_seq (cw_region (omi rfl rfl ?_))
        refine ow1 (op1_pr (r22_names _ d.kind (by omega)) (en_f cb106 rfl) rfl ?_)
        refine ol rfl (lo_not rfl) (omb rfl rfl ?_)
        refine ow1 (op1_g rfl (by rw [(fd (by omega))] <;> rfl) rfl (lo_fieldAddr rfl fl66_5) ?_)
        refine ow1 (op1_g rfl (by rw [(fd (by omega))] <;> rfl) rfl (lo_load1 (i := 0) (v := str _) rfl ag9 rfl rfl) ?_)
        refine ow1 (op1_g rfl (by rw [(fd (by omega))] <;> rfl) rfl (lo_sneq rfl rfl) ?_)
        refine ol rfl (lo_pick_t (v := .bool _) rfl (by rw [(fd (by omega))] <;> rfl) rfl) (omb rfl rfl (ow_sp (j := 8) rfl (fun h151 => ?_) (fun h151 => ?_)))
        · have h152 := not_t h151
          have p153 := df h152
          refine og rfl h151 rfl (og rfl h151 rfl (og rfl h151 rfl ?_))
          refine ow1 (op1_gx (j := 11) rfl rfl ?_)
          refine ow1 (op1_gx (j := 11) rfl rfl ?_)
          refine ow1 (op1_gx (j := 11) rfl rfl ?_)
          refine ow1 (op1_gx (j := 11) rfl rfl ?_)
          refine ow1 (op1_gx (j := 15) rfl rfl ?_)
          refine ow1 (op1_gx (j := 15) rfl rfl ?_)
          refine ow1 (op1_gx (j := 15) rfl rfl ?_)
          refine ow1 (op1_gx (j := 11) rfl rfl ?_)
          refine og rfl h151 rfl (ol rfl (lo_pick_t (v := .bool _) rfl h151 rfl) (ow_nil (seqK_n (cw_cond_t rfl rfl (cw_seq ?_)))))
          refine cw_region (oab rfl rfl (ow_nil (seqK_n (cw_ret (seqK_r ?_)))))
          refine fnK_r (res1 rfl (rv_t (v := .bool _) rfl)) (.refl _) ?_
          refine congrArg Value.bool (spare_t fun hh => ?_)
          obtain ⟨t1, t2, t3, t4, t5, t6, t7, t8, t9, t10, t11⟩ := told_iff.1 hh
          first
            | (have := t1 (by omega); contradiction)
            | (have := t2 (by omega); contradiction)
            | (have := t3 (by omega) (by omega); contradiction)
            | (have := t4 (by omega) (by omega) (by omega) (by omega); contradiction)
            | (have := t5 (by omega); contradiction)
            | (have := t6 (by omega); contradiction)
            | (have := t7 (by omega); contradiction)
            | (have := t8 (by omega); contradiction)
            | (have := t9 (by omega); contradiction)
            | (have := t10 (by omega); contradiction)
            | (have := t11 (by omega) (by omega); contradiction)
        have h154 := not_f h151
        have p155 := dt h154
        refine ow1 (op1_g rfl h151 rfl (lo_move (v := .int _ _) rfl) ?_)
        refine ow1 (op1_g rfl h151 rfl (lo_neq rfl rfl) ?_)
        refine ow1 (op1_g rfl h151 rfl (lo_move (v := .bool _) rfl) ?_)
        refine ow1 (op1_g rfl (by rw [(fd (by omega))] <;> rfl) rfl (lo_fieldAddr rfl fl66_6) ?_)
        refine ow1 (op1_g rfl (by rw [(fd (by omega))] <;> rfl) rfl (lo_load1 (i := 0) (v := .int _ _) rfl ag25 rfl rfl) ?_)
        refine ow1 (op1_g rfl (by rw [(fd (by omega))] <;> rfl) rfl (lo_neq rfl rfl) ?_)
        refine ow1 (op1_g rfl (by rw [(fd (by omega))] <;> rfl) rfl (lo_move (v := .bool _) rfl) ?_)
        refine ow_sp (j := 15) rfl (fun h156 => ?_) (fun h156 => ?_)
        · have h157 := not_t h156
          have p158 := df h157
          refine og rfl h156 rfl (og rfl h156 rfl (og rfl h156 rfl ?_))
          refine ow1 (op1_g rfl (by rw [(fd (by omega))] <;> rfl) rfl (lo_pick_t (v := .bool _) rfl h156 rfl) ?_)
          refine ow1 (op1_g rfl h151 rfl (lo_pick_t (v := .bool _) rfl (by rw [(fd (by omega))] <;> rfl) rfl) ?_)
          refine ol rfl (lo_pick_f (v := .bool _) rfl h151 rfl) (ow_nil (seqK_n (cw_cond_t rfl rfl (cw_seq (cw_region ?_)))))
          refine oab rfl rfl (ow_nil (seqK_n (cw_ret (seqK_r (fnK_r (res1 rfl (rv_t (v := .bool _) rfl)) (.refl _) ?_)))))
          refine congrArg Value.bool (spare_t fun hh => ?_)
          obtain ⟨t1, t2, t3, t4, t5, t6, t7, t8, t9, t10, t11⟩ := told_iff.1 hh
          first
            | (have := t1 (by omega); contradiction)
            | (have := t2 (by omega); contradiction)
            | (have := t3 (by omega) (by omega); contradiction)
            | (have := t4 (by omega) (by omega) (by omega) (by omega); contradiction)
            | (have := t5 (by omega); contradiction)
            | (have := t6 (by omega); contradiction)
            | (have := t7 (by omega); contradiction)
            | (have := t8 (by omega); contradiction)
            | (have := t9 (by omega); contradiction)
            | (have := t10 (by omega); contradiction)
            | (have := t11 (by omega) (by omega); contradiction)
        have h159 := not_f h156
        have p160 := dt h159
        refine ow1 (op1_g rfl h156 rfl (lo_fieldAddr rfl fl66_7) ?_)
        refine ow1 (op1_g rfl h156 rfl (lo_load1 (i := 0) (v := .int _ _) rfl ag5 rfl rfl) ?_)
        refine ow1 (op1_g rfl h156 rfl (lo_neq rfl rfl) ?_)
        refine ow1 (op1_g rfl (by rw [(fd (by omega))] <;> rfl) rfl (lo_pick_f (v := .bool _) rfl h156 rfl) ?_)
        refine ow1 (op1_g rfl h151 rfl (lo_pick_t (v := .bool _) rfl (by rw [(fd (by omega))] <;> rfl) rfl) ?_)
        refine ol rfl (lo_pick_f (v := .bool _) rfl h151 rfl) (ow_nil (seqK_n (cw_cond rfl (fun h161 => ?_) (fun h161 => ?_))))
        · have h162 := not_t h161
          have p163 := df h162
          refine cw_seq (cw_region (oab rfl rfl (ow_nil (seqK_n (cw_ret ?_)))))
          refine seqK_r (fnK_r (res1 rfl (rv_t (v := .bool _) rfl)) (.refl _) ?_)
          refine congrArg Value.bool (spare_t fun hh => ?_)
          obtain ⟨t1, t2, t3, t4, t5, t6, t7, t8, t9, t10, t11⟩ := told_iff.1 hh
          first
            | (have := t1 (by omega); contradiction)
            | (have := t2 (by omega); contradiction)
            | (have := t3 (by omega) (by omega); contradiction)
            | (have := t4 (by omega) (by omega) (by omega) (by omega); contradiction)
            | (have := t5 (by omega); contradiction)
            | (have := t6 (by omega); contradiction)
            | (have := t7 (by omega); contradiction)
            | (have := t8 (by omega); contradiction)
            | (have := t9 (by omega); contradiction)
            | (have := t10 (by omega); contradiction)
            | (have := t11 (by omega) (by omega); contradiction)
        have h164 := not_f h161
        have p165 := dt h164
        refine cw_skip (seqK_n (cw_seq (cw_seq (cw_region (omi rfl rfl ?_)))))
        refine ol rfl (lo_neq rfl rfl) (omb rfl rfl ?_)
        refine ow1 (op1_g rfl (by rw [(fd (by omega))] <;> rfl) rfl (lo_fieldAddr rfl fl66_8) ?_)
        refine ow1 (op1_g rfl (by rw [(fd (by omega))] <;> rfl) rfl (lo_load1 (i := 0) (v := .int _ _) rfl ag5 rfl rfl) ?_)
        refine ow1 (op1_g rfl (by rw [(fd (by omega))] <;> rfl) rfl (lo_neq rfl rfl) ?_)
        refine ow1 (op1_g rfl (by rw [(fd (by omega))] <;> rfl) rfl (lo_move (v := .bool _) rfl) ?_)
        refine ow_sp (j := 6) rfl (fun h166 => ?_) (fun h166 => ?_)
        · have h167 := not_t h166
          have p168 := df h167
          refine og rfl h166 rfl (og rfl h166 rfl (og rfl h166 rfl ?_))
          refine ow1 (op1_g rfl (by rw [(fd (by omega))] <;> rfl) rfl (lo_pick_t (v := .bool _) rfl h166 rfl) ?_)
          refine ol rfl (lo_pick_t (v := .bool _) rfl (by rw [(fd (by omega))] <;> rfl) rfl) (omb rfl rfl (og rfl rfl rfl (og rfl rfl rfl (og rfl rfl rfl ?_))))
          refine ow1 (op1_gx (j := 15) rfl rfl ?_)
          refine ow1 (op1_gx (j := 15) rfl rfl ?_)
          refine ow1 (op1_gx (j := 15) rfl rfl ?_)
          refine ow1 (op1_gx (j := 15) rfl rfl ?_)
          refine ow1 (op1_gx (j := 19) rfl rfl ?_)
          refine ow1 (op1_gx (j := 19) rfl rfl ?_)
          refine ow1 (op1_gx (j := 19) rfl rfl ?_)
          refine ow1 (op1_gx (j := 15) rfl rfl ?_)
          refine og rfl rfl rfl (ol rfl (lo_pick_t (v := .bool _) rfl rfl rfl) (ow_nil (seqK_n (cw_cond_t rfl rfl (cw_seq ?_)))))
          refine cw_region (oab rfl rfl (ow_nil (seqK_n (cw_ret (seqK_r ?_)))))
          refine fnK_r (res1 rfl (rv_t (v := .bool _) rfl)) (.refl _) ?_
          refine congrArg Value.bool (spare_t fun hh => ?_)
          obtain ⟨t1, t2, t3, t4, t5, t6, t7, t8, t9, t10, t11⟩ := told_iff.1 hh
          first
            | (have := t1 (by omega); contradiction)
            | (have := t2 (by omega); contradiction)
            | (have := t3 (by omega) (by omega); contradiction)
            | (have := t4 (by omega) (by omega) (by omega) (by omega); contradiction)
            | (have := t5 (by omega); contradiction)
            | (have := t6 (by omega); contradiction)
            | (have := t7 (by omega); contradiction)
            | (have := t8 (by omega); contradiction)
            | (have := t9 (by omega); contradiction)
            | (have := t10 (by omega); contradiction)
            | (have := t11 (by omega) (by omega); contradiction)
        have h169 := not_f h166
        have p170 := dt h169
        refine ow1 (op1_g rfl h166 rfl (lo_fieldAddr rfl fl66_10) ?_)
        refine ow1 (op1_g rfl h166 rfl (lo_load1 (i := 0) (v := .int _ _) rfl ag25 rfl rfl) ?_)
        refine ow1 (op1_g rfl h166 rfl (lo_neq rfl rfl) ?_)
        refine ow1 (op1_g rfl (by rw [(fd (by omega))] <;> rfl) rfl (lo_pick_f (v := .bool _) rfl h166 rfl) ?_)
        refine ol rfl (lo_pick_t (v := .bool _) rfl (by rw [(fd (by omega))] <;> rfl) rfl) (omb rfl rfl (ow_sp (j := 12) rfl (fun h171 => ?_) (fun h171 => ?_)))
        · have h172 := not_t h171
          have p173 := df h172
          refine og rfl h171 rfl (og rfl h171 rfl (og rfl h171 rfl ?_))
          refine ow1 (op1_gx (j := 15) rfl rfl ?_)
          refine ow1 (op1_gx (j := 15) rfl rfl ?_)
          refine ow1 (op1_gx (j := 15) rfl rfl ?_)
          refine ow1 (op1_gx (j := 15) rfl rfl ?_)
          refine ow1 (op1_gx (j := 19) rfl rfl ?_)
          refine ow1 (op1_gx (j := 19) rfl rfl ?_)
          refine ow1 (op1_gx (j := 19) rfl rfl ?_)
          refine ow1 (op1_gx (j := 15) rfl rfl ?_)
          refine og rfl h171 rfl (ol rfl (lo_pick_t (v := .bool _) rfl h171 rfl) (ow_nil (seqK_n (cw_cond_t rfl rfl (cw_seq ?_)))))
          refine cw_region (oab rfl rfl (ow_nil (seqK_n (cw_ret (seqK_r ?_)))))
          refine fnK_r (res1 rfl (rv_t (v := .bool _) rfl)) (.refl _) ?_
          refine congrArg Value.bool (spare_t fun hh => ?_)
          obtain ⟨t1, t2, t3, t4, t5, t6, t7, t8, t9, t10, t11⟩ := told_iff.1 hh
          first
            | (have := t1 (by omega); contradiction)
            | (have := t2 (by omega); contradiction)
            | (have := t3 (by omega) (by omega); contradiction)
            | (have := t4 (by omega) (by omega) (by omega) (by omega); contradiction)
            | (have := t5 (by omega); contradiction)
            | (have := t6 (by omega); contradiction)
            | (have := t7 (by omega); contradiction)
            | (have := t8 (by omega); contradiction)
            | (have := t9 (by omega); contradiction)
            | (have := t10 (by omega); contradiction)
            | (have := t11 (by omega) (by omega); contradiction)
        have h174 := not_f h171
        have p175 := dt h174
        refine ow1 (op1_g rfl h171 rfl (lo_move (v := .int _ _) rfl) ?_)
        refine ow1 (op1_g rfl h171 rfl (lo_neq rfl rfl) ?_)
        refine ow1 (op1_g rfl h171 rfl (lo_move (v := .bool _) rfl) ?_)
        refine ow1 (op1_g rfl (by rw [(fd (by omega))] <;> rfl) rfl (lo_fieldAddr rfl fl66_9) ?_)
        refine ow1 (op1_g rfl (by rw [(fd (by omega))] <;> rfl) rfl (lo_load1 (i := 0) (v := .int _ _) rfl ag5 rfl rfl) ?_)
        refine ow1 (op1_g rfl (by rw [(fd (by omega))] <;> rfl) rfl (lo_neq rfl rfl) ?_)
        refine ow1 (op1_g rfl (by rw [(fd (by omega))] <;> rfl) rfl (lo_move (v := .bool _) rfl) ?_)
        refine ow_sp (j := 19) rfl (fun h176 => ?_) (fun h176 => ?_)
        · have h177 := not_t h176
          have p178 := df h177
          refine og rfl h176 rfl (og rfl h176 rfl (og rfl h176 rfl ?_))
          refine ow1 (op1_g rfl (by rw [(fd (by omega))] <;> rfl) rfl (lo_pick_t (v := .bool _) rfl h176 rfl) ?_)
          refine ow1 (op1_g rfl h171 rfl (lo_pick_t (v := .bool _) rfl (by rw [(fd (by omega))] <;> rfl) rfl) ?_)
          refine ol rfl (lo_pick_f (v := .bool _) rfl h171 rfl) (ow_nil (seqK_n (cw_cond_t rfl rfl (cw_seq (cw_region ?_)))))
          refine oab rfl rfl (ow_nil (seqK_n (cw_ret (seqK_r (fnK_r (res1 rfl (rv_t (v := .bool _) rfl)) (.refl _) ?_)))))
          refine congrArg Value.bool (spare_t fun hh => ?_)
          obtain ⟨t1, t2, t3, t4, t5, t6, t7, t8, t9, t10, t11⟩ := told_iff.1 hh
          first
            | (have := t1 (by omega); contradiction)
            | (have := t2 (by omega); contradiction)
            | (have := t3 (by omega) (by omega); contradiction)
            | (have := t4 (by omega) (by omega) (by omega) (by omega); contradiction)
            | (have := t5 (by omega); contradiction)
            | (have := t6 (by omega); contradiction)
            | (have := t7 (by omega); contradiction)
            | (have := t8 (by omega); contradiction)
            | (have := t9 (by omega); contradiction)
            | (have := t10 (by omega); contradiction)
            | (have := t11 (by omega) (by omega); contradiction)
        have h179 := not_f h176
        have p180 := dt h179
        refine ow1 (op1_g rfl h176 rfl (lo_fieldAddr rfl fl66_12) ?_)
        refine ow1 (op1_g rfl h176 rfl (lo_load1 (i := 0) (v := str _) rfl ag9 rfl rfl) ?_)
        refine ow1 (op1_g rfl h176 rfl (lo_sneq rfl rfl) ?_)
        refine ow1 (op1_g rfl (by rw [(fd (by omega))] <;> rfl) rfl (lo_pick_f (v := .bool _) rfl h176 rfl) ?_)
        refine ow1 (op1_g rfl h171 rfl (lo_pick_t (v := .bool _) rfl (by rw [(fd (by omega))] <;> rfl) rfl) ?_)
        refine ol rfl (lo_pick_f (v := .bool _) rfl h171 rfl) (ow_nil (seqK_n (cw_cond rfl (fun h181 => ?_) (fun h181 => ?_))))
        · have h182 := not_t h181
          have p183 := df h182
          refine cw_seq (cw_region (oab rfl rfl (ow_nil (seqK_n (cw_ret ?_)))))
          refine seqK_r (fnK_r (res1 rfl (rv_t (v := .bool _) rfl)) (.refl _) ?_)
          refine congrArg Value.bool (spare_t fun hh => ?_)
          obtain ⟨t1, t2, t3, t4, t5, t6, t7, t8, t9, t10, t11⟩ := told_iff.1 hh
          first
            | (have := t1 (by omega); contradiction)
            | (have := t2 (by omega); contradiction)
            | (have := t3 (by omega) (by omega); contradiction)
            | (have := t4 (by omega) (by omega) (by omega) (by omega); contradiction)
            | (have := t5 (by omega); contradiction)
            | (have := t6 (by omega); contradiction)
            | (have := t7 (by omega); contradiction)
            | (have := t8 (by omega); contradiction)
            | (have := t9 (by omega); contradiction)
            | (have := t10 (by omega); contradiction)
            | (have := t11 (by omega) (by omega); contradiction)
        have h184 := not_f h181
        have p185 := dt h184
        refine cw_skip (seqK_n (cw_seq (cw_region (omi rfl rfl (ol rfl (lo_neq rfl rfl) ?_)))))
        refine omb rfl rfl ?_
        refine ow1 (op1_g rfl (by rw [(fd (by omega))] <;> rfl) rfl (lo_move (v := .int _ _) rfl) ?_)
        refine ow1 (op1_g rfl (by rw [(fd (by omega))] <;> rfl) rfl (lo_neq rfl rfl) ?_)
        refine ol rfl (lo_pick_t (v := .bool _) rfl (by rw [(fd (by omega))] <;> rfl) rfl) (omb rfl rfl ?_)
        refine ow1 (op1_g rfl (by rw [(fd (by omega))] <;> rfl) rfl (lo_fieldAddr rfl fl66_11) ?_)
        refine ow1 (op1_g rfl (by rw [(fd (by omega))] <;> rfl) rfl (lo_loadA (i := 0) (vs := [_, _, _, _, _, _, _]) rfl ag28 sz28 rfl rfl rfl) ?_)
        refine ow1 (op1_g rfl (by rw [(fd (by omega))] <;> rfl) rfl (lo_build (v := .agg #[_, _, _, _, _, _, _]) rfl (bd28)) ?_)
        refine ow1 (op1_prg rfl (by rw [(fd (by omega))] <;> rfl) (r13_Same _ d.mail d_mail_head_a d_mail_head_c d_mail_head_h (by simp only [Mail.wf]; first | omega | (simp; done) | (simp; omega)) (⟨0, [], [], [], [], 0, 0⟩ : Mail) none 0 slh_nil (by simp only [Mail.wf]; first | omega | (simp; done) | (simp; omega))) (en_f cb129 rfl) rfl ?_)
        refine ow1 (op1_g rfl (by rw [(fd (by omega))] <;> rfl) rfl (lo_not rfl) ?_)
        refine ol rfl (lo_pick_t (v := .bool _) rfl (by rw [(fd (by omega))] <;> rfl) rfl) (oab rfl rfl (ow_nil (seqK_n (cw_ret (fnK_r (res1 rfl (rv_t (v := .bool _) rfl)) (.refl _) ?_)))))
        refine congrArg Value.bool (congrArg (fun b => !b) ?_)
        rw [Bool.eq_iff_iff]
        simp only [decide_eq_true_eq]
        constructor
        · intro hm; exact told_iff.2 ⟨(by intros; first | assumption | omega), (by intros; first | assumption | omega), (by intros; first | assumption | omega), (by intros; first | assumption | omega), (by intros; first | assumption | omega), (by intros; first | assumption | omega), (by intros; first | assumption | omega), (by intros; first | assumption | omega), (by intros; first | assumption | omega), (by intros; first | assumption | omega), fun _ _ => hm⟩
        intro hh; obtain ⟨_, _, _, _, _, _, _, _, _, _, t11⟩ := told_iff.1 hh; exact t11 (by omega) (by omega)
      have h186 := not_f h18
      have p187 := dt h186
      refine og rfl h18 rfl (og rfl h18 rfl (ol rfl (lo_pick_f (v := .bool _) rfl h18 rfl) (omb rfl rfl (og rfl rfl rfl (og rfl rfl rfl ?_)))))
      refine og rfl rfl rfl (og rfl rfl rfl (og rfl rfl rfl (ol rfl (lo_pick_f (v := .bool _) rfl rfl rfl) (ow_nil (seqK_n ?_)))))
      refine cw_cond_f rfl rfl (cw_skip (seqK_n (cw_seq (cw_seq (cw_region ?_)))))
      refine omi rfl rfl ?_
      refine ow1 (op1_pr (r22_names _ d.kind (by omega)) (en_f cb106 rfl) rfl ?_)
      refine ol rfl (lo_not rfl) (omb rfl rfl ?_)
      refine ow1 (op1_g rfl (by rw [(fd (by omega))] <;> rfl) rfl (lo_fieldAddr rfl fl66_5) ?_)
      refine ow1 (op1_g rfl (by rw [(fd (by omega))] <;> rfl) rfl (lo_load1 (i := 0) (v := str _) rfl ag9 rfl rfl) ?_)
      refine ow1 (op1_g rfl (by rw [(fd (by omega))] <;> rfl) rfl (lo_sneq rfl rfl) ?_)
      refine ol rfl (lo_pick_t (v := .bool _) rfl (by rw [(fd (by omega))] <;> rfl) rfl) (omb rfl rfl (ow_sp (j := 8) rfl (fun h188 => ?_) (fun h188 => ?_)))
      · have h189 := not_t h188
        have p190 := df h189
        refine og rfl h188 rfl (og rfl h188 rfl (og rfl h188 rfl ?_))
        refine ow1 (op1_gx (j := 11) rfl rfl ?_)
        refine ow1 (op1_gx (j := 11) rfl rfl ?_)
        refine ow1 (op1_gx (j := 11) rfl rfl ?_)
        refine ow1 (op1_gx (j := 11) rfl rfl ?_)
        refine ow1 (op1_gx (j := 15) rfl rfl ?_)
        refine ow1 (op1_gx (j := 15) rfl rfl ?_)
        refine ow1 (op1_gx (j := 15) rfl rfl ?_)
        refine ow1 (op1_gx (j := 11) rfl rfl ?_)
        refine og rfl h188 rfl (ol rfl (lo_pick_t (v := .bool _) rfl h188 rfl) (ow_nil (seqK_n (cw_cond_t rfl rfl (cw_seq ?_)))))
        refine cw_region (oab rfl rfl (ow_nil (seqK_n (cw_ret (seqK_r ?_)))))
        refine fnK_r (res1 rfl (rv_t (v := .bool _) rfl)) (.refl _) ?_
        refine congrArg Value.bool (spare_t fun hh => ?_)
        obtain ⟨t1, t2, t3, t4, t5, t6, t7, t8, t9, t10, t11⟩ := told_iff.1 hh
        first
          | (have := t1 (by omega); contradiction)
          | (have := t2 (by omega); contradiction)
          | (have := t3 (by omega) (by omega); contradiction)
          | (have := t4 (by omega) (by omega) (by omega) (by omega); contradiction)
          | (have := t5 (by omega); contradiction)
          | (have := t6 (by omega); contradiction)
          | (have := t7 (by omega); contradiction)
          | (have := t8 (by omega); contradiction)
          | (have := t9 (by omega); contradiction)
          | (have := t10 (by omega); contradiction)
          | (have := t11 (by omega) (by omega); contradiction)
      have h191 := not_f h188
      have p192 := dt h191
      refine ow1 (op1_g rfl h188 rfl (lo_move (v := .int _ _) rfl) ?_)
      refine ow1 (op1_g rfl h188 rfl (lo_neq rfl rfl) ?_)
      refine ow1 (op1_g rfl h188 rfl (lo_move (v := .bool _) rfl) ?_)
      refine ow1 (op1_g rfl (by rw [(fd (by omega))] <;> rfl) rfl (lo_fieldAddr rfl fl66_6) ?_)
      refine ow1 (op1_g rfl (by rw [(fd (by omega))] <;> rfl) rfl (lo_load1 (i := 0) (v := .int _ _) rfl ag25 rfl rfl) ?_)
      refine ow1 (op1_g rfl (by rw [(fd (by omega))] <;> rfl) rfl (lo_neq rfl rfl) ?_)
      refine ow1 (op1_g rfl (by rw [(fd (by omega))] <;> rfl) rfl (lo_move (v := .bool _) rfl) ?_)
      refine ow_sp (j := 15) rfl (fun h193 => ?_) (fun h193 => ?_)
      · have h194 := not_t h193
        have p195 := df h194
        refine og rfl h193 rfl (og rfl h193 rfl (og rfl h193 rfl ?_))
        refine ow1 (op1_g rfl (by rw [(fd (by omega))] <;> rfl) rfl (lo_pick_t (v := .bool _) rfl h193 rfl) ?_)
        refine ow1 (op1_g rfl h188 rfl (lo_pick_t (v := .bool _) rfl (by rw [(fd (by omega))] <;> rfl) rfl) ?_)
        refine ol rfl (lo_pick_f (v := .bool _) rfl h188 rfl) (ow_nil (seqK_n (cw_cond_t rfl rfl (cw_seq (cw_region ?_)))))
        refine oab rfl rfl (ow_nil (seqK_n (cw_ret (seqK_r (fnK_r (res1 rfl (rv_t (v := .bool _) rfl)) (.refl _) ?_)))))
        refine congrArg Value.bool (spare_t fun hh => ?_)
        obtain ⟨t1, t2, t3, t4, t5, t6, t7, t8, t9, t10, t11⟩ := told_iff.1 hh
        first
          | (have := t1 (by omega); contradiction)
          | (have := t2 (by omega); contradiction)
          | (have := t3 (by omega) (by omega); contradiction)
          | (have := t4 (by omega) (by omega) (by omega) (by omega); contradiction)
          | (have := t5 (by omega); contradiction)
          | (have := t6 (by omega); contradiction)
          | (have := t7 (by omega); contradiction)
          | (have := t8 (by omega); contradiction)
          | (have := t9 (by omega); contradiction)
          | (have := t10 (by omega); contradiction)
          | (have := t11 (by omega) (by omega); contradiction)
      have h196 := not_f h193
      have p197 := dt h196
      refine ow1 (op1_g rfl h193 rfl (lo_fieldAddr rfl fl66_7) ?_)
      refine ow1 (op1_g rfl h193 rfl (lo_load1 (i := 0) (v := .int _ _) rfl ag5 rfl rfl) ?_)
      refine ow1 (op1_g rfl h193 rfl (lo_neq rfl rfl) ?_)
      refine ow1 (op1_g rfl (by rw [(fd (by omega))] <;> rfl) rfl (lo_pick_f (v := .bool _) rfl h193 rfl) ?_)
      refine ow1 (op1_g rfl h188 rfl (lo_pick_t (v := .bool _) rfl (by rw [(fd (by omega))] <;> rfl) rfl) ?_)
      refine ol rfl (lo_pick_f (v := .bool _) rfl h188 rfl) (ow_nil (seqK_n (cw_cond rfl (fun h198 => ?_) (fun h198 => ?_))))
      · have h199 := not_t h198
        have p200 := df h199
        refine cw_seq (cw_region (oab rfl rfl (ow_nil (seqK_n (cw_ret ?_)))))
        refine seqK_r (fnK_r (res1 rfl (rv_t (v := .bool _) rfl)) (.refl _) ?_)
        refine congrArg Value.bool (spare_t fun hh => ?_)
        obtain ⟨t1, t2, t3, t4, t5, t6, t7, t8, t9, t10, t11⟩ := told_iff.1 hh
        first
          | (have := t1 (by omega); contradiction)
          | (have := t2 (by omega); contradiction)
          | (have := t3 (by omega) (by omega); contradiction)
          | (have := t4 (by omega) (by omega) (by omega) (by omega); contradiction)
          | (have := t5 (by omega); contradiction)
          | (have := t6 (by omega); contradiction)
          | (have := t7 (by omega); contradiction)
          | (have := t8 (by omega); contradiction)
          | (have := t9 (by omega); contradiction)
          | (have := t10 (by omega); contradiction)
          | (have := t11 (by omega) (by omega); contradiction)
      have h201 := not_f h198
      have p202 := dt h201
      refine cw_skip (seqK_n (cw_seq (cw_seq (cw_region (omi rfl rfl ?_)))))
      refine ol rfl (lo_neq rfl rfl) (omb rfl rfl ?_)
      refine ow1 (op1_g rfl (by rw [(fd (by omega))] <;> rfl) rfl (lo_fieldAddr rfl fl66_8) ?_)
      refine ow1 (op1_g rfl (by rw [(fd (by omega))] <;> rfl) rfl (lo_load1 (i := 0) (v := .int _ _) rfl ag5 rfl rfl) ?_)
      refine ow1 (op1_g rfl (by rw [(fd (by omega))] <;> rfl) rfl (lo_neq rfl rfl) ?_)
      refine ow1 (op1_g rfl (by rw [(fd (by omega))] <;> rfl) rfl (lo_move (v := .bool _) rfl) ?_)
      refine ow_sp (j := 6) rfl (fun h203 => ?_) (fun h203 => ?_)
      · have h204 := not_t h203
        have p205 := df h204
        refine og rfl h203 rfl (og rfl h203 rfl (og rfl h203 rfl ?_))
        refine ow1 (op1_g rfl (by rw [(fd (by omega))] <;> rfl) rfl (lo_pick_t (v := .bool _) rfl h203 rfl) ?_)
        refine ol rfl (lo_pick_t (v := .bool _) rfl (by rw [(fd (by omega))] <;> rfl) rfl) (omb rfl rfl (og rfl rfl rfl (og rfl rfl rfl (og rfl rfl rfl ?_))))
        refine ow1 (op1_gx (j := 15) rfl rfl ?_)
        refine ow1 (op1_gx (j := 15) rfl rfl ?_)
        refine ow1 (op1_gx (j := 15) rfl rfl ?_)
        refine ow1 (op1_gx (j := 15) rfl rfl ?_)
        refine ow1 (op1_gx (j := 19) rfl rfl ?_)
        refine ow1 (op1_gx (j := 19) rfl rfl ?_)
        refine ow1 (op1_gx (j := 19) rfl rfl ?_)
        refine ow1 (op1_gx (j := 15) rfl rfl ?_)
        refine og rfl rfl rfl (ol rfl (lo_pick_t (v := .bool _) rfl rfl rfl) (ow_nil (seqK_n (cw_cond_t rfl rfl (cw_seq ?_)))))
        refine cw_region (oab rfl rfl (ow_nil (seqK_n (cw_ret (seqK_r ?_)))))
        refine fnK_r (res1 rfl (rv_t (v := .bool _) rfl)) (.refl _) ?_
        refine congrArg Value.bool (spare_t fun hh => ?_)
        obtain ⟨t1, t2, t3, t4, t5, t6, t7, t8, t9, t10, t11⟩ := told_iff.1 hh
        first
          | (have := t1 (by omega); contradiction)
          | (have := t2 (by omega); contradiction)
          | (have := t3 (by omega) (by omega); contradiction)
          | (have := t4 (by omega) (by omega) (by omega) (by omega); contradiction)
          | (have := t5 (by omega); contradiction)
          | (have := t6 (by omega); contradiction)
          | (have := t7 (by omega); contradiction)
          | (have := t8 (by omega); contradiction)
          | (have := t9 (by omega); contradiction)
          | (have := t10 (by omega); contradiction)
          | (have := t11 (by omega) (by omega); contradiction)
      have h206 := not_f h203
      have p207 := dt h206
      refine ow1 (op1_g rfl h203 rfl (lo_fieldAddr rfl fl66_10) ?_)
      refine ow1 (op1_g rfl h203 rfl (lo_load1 (i := 0) (v := .int _ _) rfl ag25 rfl rfl) ?_)
      refine ow1 (op1_g rfl h203 rfl (lo_neq rfl rfl) ?_)
      refine ow1 (op1_g rfl (by rw [(fd (by omega))] <;> rfl) rfl (lo_pick_f (v := .bool _) rfl h203 rfl) ?_)
      refine ol rfl (lo_pick_t (v := .bool _) rfl (by rw [(fd (by omega))] <;> rfl) rfl) (omb rfl rfl (ow_sp (j := 12) rfl (fun h208 => ?_) (fun h208 => ?_)))
      · have h209 := not_t h208
        have p210 := df h209
        refine og rfl h208 rfl (og rfl h208 rfl (og rfl h208 rfl ?_))
        refine ow1 (op1_gx (j := 15) rfl rfl ?_)
        refine ow1 (op1_gx (j := 15) rfl rfl ?_)
        refine ow1 (op1_gx (j := 15) rfl rfl ?_)
        refine ow1 (op1_gx (j := 15) rfl rfl ?_)
        refine ow1 (op1_gx (j := 19) rfl rfl ?_)
        refine ow1 (op1_gx (j := 19) rfl rfl ?_)
        refine ow1 (op1_gx (j := 19) rfl rfl ?_)
        refine ow1 (op1_gx (j := 15) rfl rfl ?_)
        refine og rfl h208 rfl (ol rfl (lo_pick_t (v := .bool _) rfl h208 rfl) (ow_nil (seqK_n (cw_cond_t rfl rfl (cw_seq ?_)))))
        refine cw_region (oab rfl rfl (ow_nil (seqK_n (cw_ret (seqK_r ?_)))))
        refine fnK_r (res1 rfl (rv_t (v := .bool _) rfl)) (.refl _) ?_
        refine congrArg Value.bool (spare_t fun hh => ?_)
        obtain ⟨t1, t2, t3, t4, t5, t6, t7, t8, t9, t10, t11⟩ := told_iff.1 hh
        first
          | (have := t1 (by omega); contradiction)
          | (have := t2 (by omega); contradiction)
          | (have := t3 (by omega) (by omega); contradiction)
          | (have := t4 (by omega) (by omega) (by omega) (by omega); contradiction)
          | (have := t5 (by omega); contradiction)
          | (have := t6 (by omega); contradiction)
          | (have := t7 (by omega); contradiction)
          | (have := t8 (by omega); contradiction)
          | (have := t9 (by omega); contradiction)
          | (have := t10 (by omega); contradiction)
          | (have := t11 (by omega) (by omega); contradiction)
      have h211 := not_f h208
      have p212 := dt h211
      refine ow1 (op1_g rfl h208 rfl (lo_move (v := .int _ _) rfl) ?_)
      refine ow1 (op1_g rfl h208 rfl (lo_neq rfl rfl) ?_)
      refine ow1 (op1_g rfl h208 rfl (lo_move (v := .bool _) rfl) ?_)
      refine ow1 (op1_g rfl (by rw [(fd (by omega))] <;> rfl) rfl (lo_fieldAddr rfl fl66_9) ?_)
      refine ow1 (op1_g rfl (by rw [(fd (by omega))] <;> rfl) rfl (lo_load1 (i := 0) (v := .int _ _) rfl ag5 rfl rfl) ?_)
      refine ow1 (op1_g rfl (by rw [(fd (by omega))] <;> rfl) rfl (lo_neq rfl rfl) ?_)
      refine ow1 (op1_g rfl (by rw [(fd (by omega))] <;> rfl) rfl (lo_move (v := .bool _) rfl) ?_)
      refine ow_sp (j := 19) rfl (fun h213 => ?_) (fun h213 => ?_)
      · have h214 := not_t h213
        have p215 := df h214
        refine og rfl h213 rfl (og rfl h213 rfl (og rfl h213 rfl ?_))
        refine ow1 (op1_g rfl (by rw [(fd (by omega))] <;> rfl) rfl (lo_pick_t (v := .bool _) rfl h213 rfl) ?_)
        refine ow1 (op1_g rfl h208 rfl (lo_pick_t (v := .bool _) rfl (by rw [(fd (by omega))] <;> rfl) rfl) ?_)
        refine ol rfl (lo_pick_f (v := .bool _) rfl h208 rfl) (ow_nil (seqK_n (cw_cond_t rfl rfl (cw_seq (cw_region ?_)))))
        refine oab rfl rfl (ow_nil (seqK_n (cw_ret (seqK_r (fnK_r (res1 rfl (rv_t (v := .bool _) rfl)) (.refl _) ?_)))))
        refine congrArg Value.bool (spare_t fun hh => ?_)
        obtain ⟨t1, t2, t3, t4, t5, t6, t7, t8, t9, t10, t11⟩ := told_iff.1 hh
        first
          | (have := t1 (by omega); contradiction)
          | (have := t2 (by omega); contradiction)
          | (have := t3 (by omega) (by omega); contradiction)
          | (have := t4 (by omega) (by omega) (by omega) (by omega); contradiction)
          | (have := t5 (by omega); contradiction)
          | (have := t6 (by omega); contradiction)
          | (have := t7 (by omega); contradiction)
          | (have := t8 (by omega); contradiction)
          | (have := t9 (by omega); contradiction)
          | (have := t10 (by omega); contradiction)
          | (have := t11 (by omega) (by omega); contradiction)
      have h216 := not_f h213
      have p217 := dt h216
      refine ow1 (op1_g rfl h213 rfl (lo_fieldAddr rfl fl66_12) ?_)
      refine ow1 (op1_g rfl h213 rfl (lo_load1 (i := 0) (v := str _) rfl ag9 rfl rfl) ?_)
      refine ow1 (op1_g rfl h213 rfl (lo_sneq rfl rfl) ?_)
      refine ow1 (op1_g rfl (by rw [(fd (by omega))] <;> rfl) rfl (lo_pick_f (v := .bool _) rfl h213 rfl) ?_)
      refine ow1 (op1_g rfl h208 rfl (lo_pick_t (v := .bool _) rfl (by rw [(fd (by omega))] <;> rfl) rfl) ?_)
      refine ol rfl (lo_pick_f (v := .bool _) rfl h208 rfl) (ow_nil (seqK_n (cw_cond rfl (fun h218 => ?_) (fun h218 => ?_))))
      · have h219 := not_t h218
        have p220 := df h219
        refine cw_seq (cw_region (oab rfl rfl (ow_nil (seqK_n (cw_ret ?_)))))
        refine seqK_r (fnK_r (res1 rfl (rv_t (v := .bool _) rfl)) (.refl _) ?_)
        refine congrArg Value.bool (spare_t fun hh => ?_)
        obtain ⟨t1, t2, t3, t4, t5, t6, t7, t8, t9, t10, t11⟩ := told_iff.1 hh
        first
          | (have := t1 (by omega); contradiction)
          | (have := t2 (by omega); contradiction)
          | (have := t3 (by omega) (by omega); contradiction)
          | (have := t4 (by omega) (by omega) (by omega) (by omega); contradiction)
          | (have := t5 (by omega); contradiction)
          | (have := t6 (by omega); contradiction)
          | (have := t7 (by omega); contradiction)
          | (have := t8 (by omega); contradiction)
          | (have := t9 (by omega); contradiction)
          | (have := t10 (by omega); contradiction)
          | (have := t11 (by omega) (by omega); contradiction)
      have h221 := not_f h218
      have p222 := dt h221
      refine cw_skip (seqK_n (cw_seq (cw_region (omi rfl rfl (ol rfl (lo_neq rfl rfl) ?_)))))
      refine omb rfl rfl ?_
      refine ow1 (op1_g rfl (by rw [(fd (by omega))] <;> rfl) rfl (lo_move (v := .int _ _) rfl) ?_)
      refine ow1 (op1_g rfl (by rw [(fd (by omega))] <;> rfl) rfl (lo_neq rfl rfl) ?_)
      refine ol rfl (lo_pick_t (v := .bool _) rfl (by rw [(fd (by omega))] <;> rfl) rfl) (omb rfl rfl ?_)
      refine ow1 (op1_g rfl (by rw [(fd (by omega))] <;> rfl) rfl (lo_fieldAddr rfl fl66_11) ?_)
      refine ow1 (op1_g rfl (by rw [(fd (by omega))] <;> rfl) rfl (lo_loadA (i := 0) (vs := [_, _, _, _, _, _, _]) rfl ag28 sz28 rfl rfl rfl) ?_)
      refine ow1 (op1_g rfl (by rw [(fd (by omega))] <;> rfl) rfl (lo_build (v := .agg #[_, _, _, _, _, _, _]) rfl (bd28)) ?_)
      refine ow1 (op1_prg rfl (by rw [(fd (by omega))] <;> rfl) (r13_Same _ d.mail d_mail_head_a d_mail_head_c d_mail_head_h (by simp only [Mail.wf]; first | omega | (simp; done) | (simp; omega)) (⟨0, [], [], [], [], 0, 0⟩ : Mail) none 0 slh_nil (by simp only [Mail.wf]; first | omega | (simp; done) | (simp; omega))) (en_f cb129 rfl) rfl ?_)
      refine ow1 (op1_g rfl (by rw [(fd (by omega))] <;> rfl) rfl (lo_not rfl) ?_)
      refine ol rfl (lo_pick_t (v := .bool _) rfl (by rw [(fd (by omega))] <;> rfl) rfl) (oab rfl rfl (ow_nil (seqK_n (cw_ret (fnK_r (res1 rfl (rv_t (v := .bool _) rfl)) (.refl _) ?_)))))
      refine congrArg Value.bool (congrArg (fun b => !b) ?_)
      rw [Bool.eq_iff_iff]
      simp only [decide_eq_true_eq]
      constructor
      · intro hm; exact told_iff.2 ⟨(by intros; first | assumption | omega), (by intros; first | assumption | omega), (by intros; first | assumption | omega), (by intros; first | assumption | omega), (by intros; first | assumption | omega), (by intros; first | assumption | omega), (by intros; first | assumption | omega), (by intros; first | assumption | omega), (by intros; first | assumption | omega), (by intros; first | assumption | omega), fun _ _ => hm⟩
      intro hh; obtain ⟨_, _, _, _, _, _, _, _, _, _, t11⟩ := told_iff.1 hh; exact t11 (by omega) (by omega)
    have h223 := not_f h10
    have p224 := dt h223
    refine og rfl h10 rfl (og rfl h10 rfl (og rfl h10 rfl (og rfl h10 rfl ?_)))
    refine ow1 (op1_g rfl h5 rfl (lo_pick_f (v := .bool _) rfl h10 rfl) ?_)
    refine ol rfl (lo_pick_f (v := .bool _) rfl h5 rfl) (ow_nil (seqK_n (cw_cond_f rfl rfl (cw_skip (seqK_n ?_)))))
    refine cw_seq (cw_seq (cw_region (omi rfl rfl (ol rfl (lo_neq rfl rfl) (omb rfl rfl ?_)))))
    refine ow1 (op1_g rfl (by rw [(fd (by omega))] <;> rfl) rfl (lo_move (v := .int _ _) rfl) ?_)
    refine ow1 (op1_g rfl (by rw [(fd (by omega))] <;> rfl) rfl (lo_neq rfl rfl) ?_)
    refine ol rfl (lo_pick_t (v := .bool _) rfl (by rw [(fd (by omega))] <;> rfl) rfl) (omb rfl rfl ?_)
    refine ow1 (op1_g rfl (by rw [(fd (by omega))] <;> rfl) rfl (lo_fieldAddr rfl fl66_4) ?_)
    refine ow1 (op1_g rfl (by rw [(fd (by omega))] <;> rfl) rfl (lo_loadA (i := 0) (vs := [_, _, _, _, _, _]) rfl ag64 sz64 rfl rfl rfl) ?_)
    refine ow1 (op1_g rfl (by rw [(fd (by omega))] <;> rfl) rfl (lo_build (v := .agg #[_, _, _, _, _, _]) rfl (bd64)) ?_)
    refine ow1 (op1_prg rfl (by rw [(fd (by omega))] <;> rfl) (r14_SameBind _ d.bind d_bind_want_a d_bind_want_c d_bind_want_h (by simp only [BindR.wf]; first | omega | (simp; done) | (simp; omega)) (⟨[], [], false, [], [], false⟩ : BindR) none 0 slh_nil (by simp only [BindR.wf]; first | omega | (simp; done) | (simp; omega))) (en_f cb128 rfl) rfl ?_)
    refine ow1 (op1_g rfl (by rw [(fd (by omega))] <;> rfl) rfl (lo_not rfl) ?_)
    refine ol rfl (lo_pick_t (v := .bool _) rfl (by rw [(fd (by omega))] <;> rfl) rfl) (ow_nil (seqK_n (cw_cond rfl (fun h225 => ?_) (fun h225 => ?_))))
    · have h226 := not_t h225
      have p227 := df h226
      refine cw_seq (cw_region (oab rfl rfl (ow_nil (seqK_n (cw_ret ?_)))))
      refine seqK_r (fnK_r (res1 rfl (rv_t (v := .bool _) rfl)) (.refl _) ?_)
      refine congrArg Value.bool (spare_t fun hh => ?_)
      obtain ⟨t1, t2, t3, t4, t5, t6, t7, t8, t9, t10, t11⟩ := told_iff.1 hh
      first
        | (have := t1 (by omega); contradiction)
        | (have := t2 (by omega); contradiction)
        | (have := t3 (by omega) (by omega); contradiction)
        | (have := t4 (by omega) (by omega) (by omega) (by omega); contradiction)
        | (have := t5 (by omega); contradiction)
        | (have := t6 (by omega); contradiction)
        | (have := t7 (by omega); contradiction)
        | (have := t8 (by omega); contradiction)
        | (have := t9 (by omega); contradiction)
        | (have := t10 (by omega); contradiction)
        | (have := t11 (by omega) (by omega); contradiction)
    have h228 := not_f h225
    have p229 := dt h228
    refine cw_skip (seqK_n (cw_seq (cw_seq (cw_region (omi rfl rfl ?_)))))
    refine ow1 (op1_pr (r22_names _ d.kind (by omega)) (en_f cb106 rfl) rfl ?_)
    refine ol rfl (lo_not rfl) (omb rfl rfl ?_)
    refine ow1 (op1_g rfl (by rw [(fd (by omega))] <;> rfl) rfl (lo_fieldAddr rfl fl66_5) ?_)
    refine ow1 (op1_g rfl (by rw [(fd (by omega))] <;> rfl) rfl (lo_load1 (i := 0) (v := str _) rfl ag9 rfl rfl) ?_)
    refine ow1 (op1_g rfl (by rw [(fd (by omega))] <;> rfl) rfl (lo_sneq rfl rfl) ?_)
    refine ol rfl (lo_pick_t (v := .bool _) rfl (by rw [(fd (by omega))] <;> rfl) rfl) (omb rfl rfl (ow_sp (j := 8) rfl (fun h230 => ?_) (fun h230 => ?_)))
    · have h231 := not_t h230
      have p232 := df h231
      refine og rfl h230 rfl (og rfl h230 rfl (og rfl h230 rfl ?_))
      refine ow1 (op1_gx (j := 11) rfl rfl ?_)
      refine ow1 (op1_gx (j := 11) rfl rfl ?_)
      refine ow1 (op1_gx (j := 11) rfl rfl ?_)
      refine ow1 (op1_gx (j := 11) rfl rfl ?_)
      refine ow1 (op1_gx (j := 15) rfl rfl ?_)
      refine ow1 (op1_gx (j := 15) rfl rfl ?_)
      refine ow1 (op1_gx (j := 15) rfl rfl ?_)
      refine ow1 (op1_gx (j := 11) rfl rfl ?_)
      refine og rfl h230 rfl (ol rfl (lo_pick_t (v := .bool _) rfl h230 rfl) (ow_nil (seqK_n (cw_cond_t rfl rfl (cw_seq ?_)))))
      refine cw_region (oab rfl rfl (ow_nil (seqK_n (cw_ret (seqK_r ?_)))))
      refine fnK_r (res1 rfl (rv_t (v := .bool _) rfl)) (.refl _) ?_
      refine congrArg Value.bool (spare_t fun hh => ?_)
      obtain ⟨t1, t2, t3, t4, t5, t6, t7, t8, t9, t10, t11⟩ := told_iff.1 hh
      first
        | (have := t1 (by omega); contradiction)
        | (have := t2 (by omega); contradiction)
        | (have := t3 (by omega) (by omega); contradiction)
        | (have := t4 (by omega) (by omega) (by omega) (by omega); contradiction)
        | (have := t5 (by omega); contradiction)
        | (have := t6 (by omega); contradiction)
        | (have := t7 (by omega); contradiction)
        | (have := t8 (by omega); contradiction)
        | (have := t9 (by omega); contradiction)
        | (have := t10 (by omega); contradiction)
        | (have := t11 (by omega) (by omega); contradiction)
    have h233 := not_f h230
    have p234 := dt h233
    refine ow1 (op1_g rfl h230 rfl (lo_move (v := .int _ _) rfl) ?_)
    refine ow1 (op1_g rfl h230 rfl (lo_neq rfl rfl) ?_)
    refine ow1 (op1_g rfl h230 rfl (lo_move (v := .bool _) rfl) ?_)
    refine ow1 (op1_g rfl (by rw [(fd (by omega))] <;> rfl) rfl (lo_fieldAddr rfl fl66_6) ?_)
    refine ow1 (op1_g rfl (by rw [(fd (by omega))] <;> rfl) rfl (lo_load1 (i := 0) (v := .int _ _) rfl ag25 rfl rfl) ?_)
    refine ow1 (op1_g rfl (by rw [(fd (by omega))] <;> rfl) rfl (lo_neq rfl rfl) ?_)
    refine ow1 (op1_g rfl (by rw [(fd (by omega))] <;> rfl) rfl (lo_move (v := .bool _) rfl) ?_)
    refine ow_sp (j := 15) rfl (fun h235 => ?_) (fun h235 => ?_)
    · have h236 := not_t h235
      have p237 := df h236
      refine og rfl h235 rfl (og rfl h235 rfl (og rfl h235 rfl ?_))
      refine ow1 (op1_g rfl (by rw [(fd (by omega))] <;> rfl) rfl (lo_pick_t (v := .bool _) rfl h235 rfl) ?_)
      refine ow1 (op1_g rfl h230 rfl (lo_pick_t (v := .bool _) rfl (by rw [(fd (by omega))] <;> rfl) rfl) ?_)
      refine ol rfl (lo_pick_f (v := .bool _) rfl h230 rfl) (ow_nil (seqK_n (cw_cond_t rfl rfl (cw_seq (cw_region ?_)))))
      refine oab rfl rfl (ow_nil (seqK_n (cw_ret (seqK_r (fnK_r (res1 rfl (rv_t (v := .bool _) rfl)) (.refl _) ?_)))))
      refine congrArg Value.bool (spare_t fun hh => ?_)
      obtain ⟨t1, t2, t3, t4, t5, t6, t7, t8, t9, t10, t11⟩ := told_iff.1 hh
      first
        | (have := t1 (by omega); contradiction)
        | (have := t2 (by omega); contradiction)
        | (have := t3 (by omega) (by omega); contradiction)
        | (have := t4 (by omega) (by omega) (by omega) (by omega); contradiction)
        | (have := t5 (by omega); contradiction)
        | (have := t6 (by omega); contradiction)
        | (have := t7 (by omega); contradiction)
        | (have := t8 (by omega); contradiction)
        | (have := t9 (by omega); contradiction)
        | (have := t10 (by omega); contradiction)
        | (have := t11 (by omega) (by omega); contradiction)
    have h238 := not_f h235
    have p239 := dt h238
    refine ow1 (op1_g rfl h235 rfl (lo_fieldAddr rfl fl66_7) ?_)
    refine ow1 (op1_g rfl h235 rfl (lo_load1 (i := 0) (v := .int _ _) rfl ag5 rfl rfl) ?_)
    refine ow1 (op1_g rfl h235 rfl (lo_neq rfl rfl) ?_)
    refine ow1 (op1_g rfl (by rw [(fd (by omega))] <;> rfl) rfl (lo_pick_f (v := .bool _) rfl h235 rfl) ?_)
    refine ow1 (op1_g rfl h230 rfl (lo_pick_t (v := .bool _) rfl (by rw [(fd (by omega))] <;> rfl) rfl) ?_)
    refine ol rfl (lo_pick_f (v := .bool _) rfl h230 rfl) (ow_nil (seqK_n (cw_cond rfl (fun h240 => ?_) (fun h240 => ?_))))
    · have h241 := not_t h240
      have p242 := df h241
      refine cw_seq (cw_region (oab rfl rfl (ow_nil (seqK_n (cw_ret ?_)))))
      refine seqK_r (fnK_r (res1 rfl (rv_t (v := .bool _) rfl)) (.refl _) ?_)
      refine congrArg Value.bool (spare_t fun hh => ?_)
      obtain ⟨t1, t2, t3, t4, t5, t6, t7, t8, t9, t10, t11⟩ := told_iff.1 hh
      first
        | (have := t1 (by omega); contradiction)
        | (have := t2 (by omega); contradiction)
        | (have := t3 (by omega) (by omega); contradiction)
        | (have := t4 (by omega) (by omega) (by omega) (by omega); contradiction)
        | (have := t5 (by omega); contradiction)
        | (have := t6 (by omega); contradiction)
        | (have := t7 (by omega); contradiction)
        | (have := t8 (by omega); contradiction)
        | (have := t9 (by omega); contradiction)
        | (have := t10 (by omega); contradiction)
        | (have := t11 (by omega) (by omega); contradiction)
    have h243 := not_f h240
    have p244 := dt h243
    refine cw_skip (seqK_n (cw_seq (cw_seq (cw_region (omi rfl rfl ?_)))))
    refine ol rfl (lo_neq rfl rfl) (omb rfl rfl ?_)
    refine ow1 (op1_g rfl (by rw [(fd (by omega))] <;> rfl) rfl (lo_fieldAddr rfl fl66_8) ?_)
    refine ow1 (op1_g rfl (by rw [(fd (by omega))] <;> rfl) rfl (lo_load1 (i := 0) (v := .int _ _) rfl ag5 rfl rfl) ?_)
    refine ow1 (op1_g rfl (by rw [(fd (by omega))] <;> rfl) rfl (lo_neq rfl rfl) ?_)
    refine ow1 (op1_g rfl (by rw [(fd (by omega))] <;> rfl) rfl (lo_move (v := .bool _) rfl) ?_)
    refine ow_sp (j := 6) rfl (fun h245 => ?_) (fun h245 => ?_)
    · have h246 := not_t h245
      have p247 := df h246
      refine og rfl h245 rfl (og rfl h245 rfl (og rfl h245 rfl ?_))
      refine ow1 (op1_g rfl (by rw [(fd (by omega))] <;> rfl) rfl (lo_pick_t (v := .bool _) rfl h245 rfl) ?_)
      refine ol rfl (lo_pick_t (v := .bool _) rfl (by rw [(fd (by omega))] <;> rfl) rfl) (omb rfl rfl (og rfl rfl rfl (og rfl rfl rfl (og rfl rfl rfl ?_))))
      refine ow1 (op1_gx (j := 15) rfl rfl ?_)
      refine ow1 (op1_gx (j := 15) rfl rfl ?_)
      refine ow1 (op1_gx (j := 15) rfl rfl ?_)
      refine ow1 (op1_gx (j := 15) rfl rfl ?_)
      refine ow1 (op1_gx (j := 19) rfl rfl ?_)
      refine ow1 (op1_gx (j := 19) rfl rfl ?_)
      refine ow1 (op1_gx (j := 19) rfl rfl ?_)
      refine ow1 (op1_gx (j := 15) rfl rfl ?_)
      refine og rfl rfl rfl (ol rfl (lo_pick_t (v := .bool _) rfl rfl rfl) (ow_nil (seqK_n (cw_cond_t rfl rfl (cw_seq ?_)))))
      refine cw_region (oab rfl rfl (ow_nil (seqK_n (cw_ret (seqK_r ?_)))))
      refine fnK_r (res1 rfl (rv_t (v := .bool _) rfl)) (.refl _) ?_
      refine congrArg Value.bool (spare_t fun hh => ?_)
      obtain ⟨t1, t2, t3, t4, t5, t6, t7, t8, t9, t10, t11⟩ := told_iff.1 hh
      first
        | (have := t1 (by omega); contradiction)
        | (have := t2 (by omega); contradiction)
        | (have := t3 (by omega) (by omega); contradiction)
        | (have := t4 (by omega) (by omega) (by omega) (by omega); contradiction)
        | (have := t5 (by omega); contradiction)
        | (have := t6 (by omega); contradiction)
        | (have := t7 (by omega); contradiction)
        | (have := t8 (by omega); contradiction)
        | (have := t9 (by omega); contradiction)
        | (have := t10 (by omega); contradiction)
        | (have := t11 (by omega) (by omega); contradiction)
    have h248 := not_f h245
    have p249 := dt h248
    refine ow1 (op1_g rfl h245 rfl (lo_fieldAddr rfl fl66_10) ?_)
    refine ow1 (op1_g rfl h245 rfl (lo_load1 (i := 0) (v := .int _ _) rfl ag25 rfl rfl) ?_)
    refine ow1 (op1_g rfl h245 rfl (lo_neq rfl rfl) ?_)
    refine ow1 (op1_g rfl (by rw [(fd (by omega))] <;> rfl) rfl (lo_pick_f (v := .bool _) rfl h245 rfl) ?_)
    refine ol rfl (lo_pick_t (v := .bool _) rfl (by rw [(fd (by omega))] <;> rfl) rfl) (omb rfl rfl (ow_sp (j := 12) rfl (fun h250 => ?_) (fun h250 => ?_)))
    · have h251 := not_t h250
      have p252 := df h251
      refine og rfl h250 rfl (og rfl h250 rfl (og rfl h250 rfl ?_))
      refine ow1 (op1_gx (j := 15) rfl rfl ?_)
      refine ow1 (op1_gx (j := 15) rfl rfl ?_)
      refine ow1 (op1_gx (j := 15) rfl rfl ?_)
      refine ow1 (op1_gx (j := 15) rfl rfl ?_)
      refine ow1 (op1_gx (j := 19) rfl rfl ?_)
      refine ow1 (op1_gx (j := 19) rfl rfl ?_)
      refine ow1 (op1_gx (j := 19) rfl rfl ?_)
      refine ow1 (op1_gx (j := 15) rfl rfl ?_)
      refine og rfl h250 rfl (ol rfl (lo_pick_t (v := .bool _) rfl h250 rfl) (ow_nil (seqK_n (cw_cond_t rfl rfl (cw_seq ?_)))))
      refine cw_region (oab rfl rfl (ow_nil (seqK_n (cw_ret (seqK_r ?_)))))
      refine fnK_r (res1 rfl (rv_t (v := .bool _) rfl)) (.refl _) ?_
      refine congrArg Value.bool (spare_t fun hh => ?_)
      obtain ⟨t1, t2, t3, t4, t5, t6, t7, t8, t9, t10, t11⟩ := told_iff.1 hh
      first
        | (have := t1 (by omega); contradiction)
        | (have := t2 (by omega); contradiction)
        | (have := t3 (by omega) (by omega); contradiction)
        | (have := t4 (by omega) (by omega) (by omega) (by omega); contradiction)
        | (have := t5 (by omega); contradiction)
        | (have := t6 (by omega); contradiction)
        | (have := t7 (by omega); contradiction)
        | (have := t8 (by omega); contradiction)
        | (have := t9 (by omega); contradiction)
        | (have := t10 (by omega); contradiction)
        | (have := t11 (by omega) (by omega); contradiction)
    have h253 := not_f h250
    have p254 := dt h253
    refine ow1 (op1_g rfl h250 rfl (lo_move (v := .int _ _) rfl) ?_)
    refine ow1 (op1_g rfl h250 rfl (lo_neq rfl rfl) ?_)
    refine ow1 (op1_g rfl h250 rfl (lo_move (v := .bool _) rfl) ?_)
    refine ow1 (op1_g rfl (by rw [(fd (by omega))] <;> rfl) rfl (lo_fieldAddr rfl fl66_9) ?_)
    refine ow1 (op1_g rfl (by rw [(fd (by omega))] <;> rfl) rfl (lo_load1 (i := 0) (v := .int _ _) rfl ag5 rfl rfl) ?_)
    refine ow1 (op1_g rfl (by rw [(fd (by omega))] <;> rfl) rfl (lo_neq rfl rfl) ?_)
    refine ow1 (op1_g rfl (by rw [(fd (by omega))] <;> rfl) rfl (lo_move (v := .bool _) rfl) ?_)
    refine ow_sp (j := 19) rfl (fun h255 => ?_) (fun h255 => ?_)
    · have h256 := not_t h255
      have p257 := df h256
      refine og rfl h255 rfl (og rfl h255 rfl (og rfl h255 rfl ?_))
      refine ow1 (op1_g rfl (by rw [(fd (by omega))] <;> rfl) rfl (lo_pick_t (v := .bool _) rfl h255 rfl) ?_)
      refine ow1 (op1_g rfl h250 rfl (lo_pick_t (v := .bool _) rfl (by rw [(fd (by omega))] <;> rfl) rfl) ?_)
      refine ol rfl (lo_pick_f (v := .bool _) rfl h250 rfl) (ow_nil (seqK_n (cw_cond_t rfl rfl (cw_seq (cw_region ?_)))))
      refine oab rfl rfl (ow_nil (seqK_n (cw_ret (seqK_r (fnK_r (res1 rfl (rv_t (v := .bool _) rfl)) (.refl _) ?_)))))
      refine congrArg Value.bool (spare_t fun hh => ?_)
      obtain ⟨t1, t2, t3, t4, t5, t6, t7, t8, t9, t10, t11⟩ := told_iff.1 hh
      first
        | (have := t1 (by omega); contradiction)
        | (have := t2 (by omega); contradiction)
        | (have := t3 (by omega) (by omega); contradiction)
        | (have := t4 (by omega) (by omega) (by omega) (by omega); contradiction)
        | (have := t5 (by omega); contradiction)
        | (have := t6 (by omega); contradiction)
        | (have := t7 (by omega); contradiction)
        | (have := t8 (by omega); contradiction)
        | (have := t9 (by omega); contradiction)
        | (have := t10 (by omega); contradiction)
        | (have := t11 (by omega) (by omega); contradiction)
    have h258 := not_f h255
    have p259 := dt h258
    refine ow1 (op1_g rfl h255 rfl (lo_fieldAddr rfl fl66_12) ?_)
    refine ow1 (op1_g rfl h255 rfl (lo_load1 (i := 0) (v := str _) rfl ag9 rfl rfl) ?_)
    refine ow1 (op1_g rfl h255 rfl (lo_sneq rfl rfl) ?_)
    refine ow1 (op1_g rfl (by rw [(fd (by omega))] <;> rfl) rfl (lo_pick_f (v := .bool _) rfl h255 rfl) ?_)
    refine ow1 (op1_g rfl h250 rfl (lo_pick_t (v := .bool _) rfl (by rw [(fd (by omega))] <;> rfl) rfl) ?_)
    refine ol rfl (lo_pick_f (v := .bool _) rfl h250 rfl) (ow_nil (seqK_n (cw_cond rfl (fun h260 => ?_) (fun h260 => ?_))))
    · have h261 := not_t h260
      have p262 := df h261
      refine cw_seq (cw_region (oab rfl rfl (ow_nil (seqK_n (cw_ret ?_)))))
      refine seqK_r (fnK_r (res1 rfl (rv_t (v := .bool _) rfl)) (.refl _) ?_)
      refine congrArg Value.bool (spare_t fun hh => ?_)
      obtain ⟨t1, t2, t3, t4, t5, t6, t7, t8, t9, t10, t11⟩ := told_iff.1 hh
      first
        | (have := t1 (by omega); contradiction)
        | (have := t2 (by omega); contradiction)
        | (have := t3 (by omega) (by omega); contradiction)
        | (have := t4 (by omega) (by omega) (by omega) (by omega); contradiction)
        | (have := t5 (by omega); contradiction)
        | (have := t6 (by omega); contradiction)
        | (have := t7 (by omega); contradiction)
        | (have := t8 (by omega); contradiction)
        | (have := t9 (by omega); contradiction)
        | (have := t10 (by omega); contradiction)
        | (have := t11 (by omega) (by omega); contradiction)
    have h263 := not_f h260
    have p264 := dt h263
    refine cw_skip (seqK_n (cw_seq (cw_region (omi rfl rfl (ol rfl (lo_neq rfl rfl) ?_)))))
    refine omb rfl rfl ?_
    refine ow1 (op1_g rfl (by rw [(fd (by omega))] <;> rfl) rfl (lo_move (v := .int _ _) rfl) ?_)
    refine ow1 (op1_g rfl (by rw [(fd (by omega))] <;> rfl) rfl (lo_neq rfl rfl) ?_)
    refine ol rfl (lo_pick_t (v := .bool _) rfl (by rw [(fd (by omega))] <;> rfl) rfl) (omb rfl rfl ?_)
    refine ow1 (op1_g rfl (by rw [(fd (by omega))] <;> rfl) rfl (lo_fieldAddr rfl fl66_11) ?_)
    refine ow1 (op1_g rfl (by rw [(fd (by omega))] <;> rfl) rfl (lo_loadA (i := 0) (vs := [_, _, _, _, _, _, _]) rfl ag28 sz28 rfl rfl rfl) ?_)
    refine ow1 (op1_g rfl (by rw [(fd (by omega))] <;> rfl) rfl (lo_build (v := .agg #[_, _, _, _, _, _, _]) rfl (bd28)) ?_)
    refine ow1 (op1_prg rfl (by rw [(fd (by omega))] <;> rfl) (r13_Same _ d.mail d_mail_head_a d_mail_head_c d_mail_head_h (by simp only [Mail.wf]; first | omega | (simp; done) | (simp; omega)) (⟨0, [], [], [], [], 0, 0⟩ : Mail) none 0 slh_nil (by simp only [Mail.wf]; first | omega | (simp; done) | (simp; omega))) (en_f cb129 rfl) rfl ?_)
    refine ow1 (op1_g rfl (by rw [(fd (by omega))] <;> rfl) rfl (lo_not rfl) ?_)
    refine ol rfl (lo_pick_t (v := .bool _) rfl (by rw [(fd (by omega))] <;> rfl) rfl) (oab rfl rfl (ow_nil (seqK_n (cw_ret (fnK_r (res1 rfl (rv_t (v := .bool _) rfl)) (.refl _) ?_)))))
    refine congrArg Value.bool (congrArg (fun b => !b) ?_)
    rw [Bool.eq_iff_iff]
    simp only [decide_eq_true_eq]
    constructor
    · intro hm; exact told_iff.2 ⟨(by intros; first | assumption | omega), (by intros; first | assumption | omega), (by intros; first | assumption | omega), (by intros; first | assumption | omega), (by intros; first | assumption | omega), (by intros; first | assumption | omega), (by intros; first | assumption | omega), (by intros; first | assumption | omega), (by intros; first | assumption | omega), (by intros; first | assumption | omega), fun _ _ => hm⟩
    intro hh; obtain ⟨_, _, _, _, _, _, _, _, _, _, t11⟩ := told_iff.1 hh; exact t11 (by omega) (by omega)
  have h265 := not_f h2
  have p266 := dt h265
  refine og rfl h2 rfl (og rfl h2 rfl (og rfl h2 rfl (og rfl h2 rfl (ol rfl (lo_pick_f (v := .bool _) rfl h2 rfl) (omb rfl rfl ?_)))))
  refine ow1 (op1_g rfl rfl rfl (lo_move (v := .int _ _) rfl) ?_)
  refine ow1 (op1_g rfl rfl rfl (lo_neq rfl rfl) ?_)
  refine ow1 (op1_g rfl rfl rfl (lo_move (v := .bool _) rfl) ?_)
  refine ow1 (op1_g rfl (by rw [(fd (by omega))] <;> rfl) rfl (lo_fieldAddr rfl fl66_3) ?_)
  refine ow1 (op1_g rfl (by rw [(fd (by omega))] <;> rfl) rfl (lo_loadA (i := 0) (vs := [_, _, _, _]) rfl ag63 sz63 rfl rfl rfl) ?_)
  refine ow1 (op1_g rfl (by rw [(fd (by omega))] <;> rfl) rfl (lo_build (v := .agg #[_, _, _, _]) rfl (bd63)) ?_)
  refine ow1 (op1_g rfl (by rw [(fd (by omega))] <;> rfl) rfl (lo_aneq (u := (QueueR.cells d.queue).toArray) (v := (QueueR.cells (⟨[], 0, 0, []⟩ : QueueR)).toArray) rfl rfl eqg63 (eqr63 _ _ 9998)) ?_)
  refine ow1 (op1_g rfl rfl rfl (lo_pick_t (v := .bool _) rfl (by rw [(fd (by omega))] <;> rfl) rfl) ?_)
  refine ol rfl (lo_pick_f (v := .bool _) rfl rfl rfl) (ow_nil (seqK_n (cw_cond rfl (fun h267 => ?_) (fun h267 => ?_))))
  · have h268 := not_t h267
    have p269 := df h268
    refine cw_seq (cw_region (oab rfl rfl (ow_nil (seqK_n (cw_ret ?_)))))
    refine seqK_r (fnK_r (res1 rfl (rv_t (v := .bool _) rfl)) (.refl _) ?_)
    refine congrArg Value.bool (spare_t fun hh => ?_)
    obtain ⟨t1, t2, t3, t4, t5, t6, t7, t8, t9, t10, t11⟩ := told_iff.1 hh
    first
      | (have := t1 (by omega); contradiction)
      | (have := t2 (by omega); contradiction)
      | (have := t3 (by omega) (by omega); contradiction)
      | (have := t4 (by omega) (by omega) (by omega) (by omega); contradiction)
      | (have := t5 (by omega); contradiction)
      | (have := t6 (by omega); contradiction)
      | (have := t7 (by omega); contradiction)
      | (have := t8 (by omega); contradiction)
      | (have := t9 (by omega); contradiction)
      | (have := t10 (by omega); contradiction)
      | (have := t11 (by omega) (by omega); contradiction)
  have h270 := not_f h267
  have p271 := dt h270
  refine cw_skip (seqK_n (cw_seq (cw_seq (cw_region (omi rfl rfl ?_)))))
  refine ol rfl (lo_neq rfl rfl) (omb rfl rfl ?_)
  refine ow1 (op1_g rfl (by rw [(fd (by omega))] <;> rfl) rfl (lo_move (v := .int _ _) rfl) ?_)
  refine ow1 (op1_g rfl (by rw [(fd (by omega))] <;> rfl) rfl (lo_neq rfl rfl) ?_)
  refine ol rfl (lo_pick_t (v := .bool _) rfl (by rw [(fd (by omega))] <;> rfl) rfl) (omb rfl rfl ?_)
  refine ow1 (op1_g rfl (by rw [(fd (by omega))] <;> rfl) rfl (lo_fieldAddr rfl fl66_4) ?_)
  refine ow1 (op1_g rfl (by rw [(fd (by omega))] <;> rfl) rfl (lo_loadA (i := 0) (vs := [_, _, _, _, _, _]) rfl ag64 sz64 rfl rfl rfl) ?_)
  refine ow1 (op1_g rfl (by rw [(fd (by omega))] <;> rfl) rfl (lo_build (v := .agg #[_, _, _, _, _, _]) rfl (bd64)) ?_)
  refine ow1 (op1_prg rfl (by rw [(fd (by omega))] <;> rfl) (r14_SameBind _ d.bind d_bind_want_a d_bind_want_c d_bind_want_h (by simp only [BindR.wf]; first | omega | (simp; done) | (simp; omega)) (⟨[], [], false, [], [], false⟩ : BindR) none 0 slh_nil (by simp only [BindR.wf]; first | omega | (simp; done) | (simp; omega))) (en_f cb128 rfl) rfl ?_)
  refine ow1 (op1_g rfl (by rw [(fd (by omega))] <;> rfl) rfl (lo_not rfl) ?_)
  refine ol rfl (lo_pick_t (v := .bool _) rfl (by rw [(fd (by omega))] <;> rfl) rfl) (ow_nil (seqK_n (cw_cond rfl (fun h272 => ?_) (fun h272 => ?_))))
  · have h273 := not_t h272
    have p274 := df h273
    refine cw_seq (cw_region (oab rfl rfl (ow_nil (seqK_n (cw_ret ?_)))))
    refine seqK_r (fnK_r (res1 rfl (rv_t (v := .bool _) rfl)) (.refl _) ?_)
    refine congrArg Value.bool (spare_t fun hh => ?_)
    obtain ⟨t1, t2, t3, t4, t5, t6, t7, t8, t9, t10, t11⟩ := told_iff.1 hh
    first
      | (have := t1 (by omega); contradiction)
      | (have := t2 (by omega); contradiction)
      | (have := t3 (by omega) (by omega); contradiction)
      | (have := t4 (by omega) (by omega) (by omega) (by omega); contradiction)
      | (have := t5 (by omega); contradiction)
      | (have := t6 (by omega); contradiction)
      | (have := t7 (by omega); contradiction)
      | (have := t8 (by omega); contradiction)
      | (have := t9 (by omega); contradiction)
      | (have := t10 (by omega); contradiction)
      | (have := t11 (by omega) (by omega); contradiction)
  have h275 := not_f h272
  have p276 := dt h275
  refine cw_skip (seqK_n (cw_seq (cw_seq (cw_region (omi rfl rfl ?_)))))
  refine ow1 (op1_pr (r22_names _ d.kind (by omega)) (en_f cb106 rfl) rfl ?_)
  refine ol rfl (lo_not rfl) (omb rfl rfl ?_)
  refine ow1 (op1_g rfl (by rw [(fd (by omega))] <;> rfl) rfl (lo_fieldAddr rfl fl66_5) ?_)
  refine ow1 (op1_g rfl (by rw [(fd (by omega))] <;> rfl) rfl (lo_load1 (i := 0) (v := str _) rfl ag9 rfl rfl) ?_)
  refine ow1 (op1_g rfl (by rw [(fd (by omega))] <;> rfl) rfl (lo_sneq rfl rfl) ?_)
  refine ol rfl (lo_pick_t (v := .bool _) rfl (by rw [(fd (by omega))] <;> rfl) rfl) (omb rfl rfl (ow_sp (j := 8) rfl (fun h277 => ?_) (fun h277 => ?_)))
  · have h278 := not_t h277
    have p279 := df h278
    refine og rfl h277 rfl (og rfl h277 rfl (og rfl h277 rfl ?_))
    refine ow1 (op1_gx (j := 11) rfl rfl ?_)
    refine ow1 (op1_gx (j := 11) rfl rfl ?_)
    refine ow1 (op1_gx (j := 11) rfl rfl ?_)
    refine ow1 (op1_gx (j := 11) rfl rfl ?_)
    refine ow1 (op1_gx (j := 15) rfl rfl ?_)
    refine ow1 (op1_gx (j := 15) rfl rfl ?_)
    refine ow1 (op1_gx (j := 15) rfl rfl ?_)
    refine ow1 (op1_gx (j := 11) rfl rfl ?_)
    refine og rfl h277 rfl (ol rfl (lo_pick_t (v := .bool _) rfl h277 rfl) (ow_nil (seqK_n (cw_cond_t rfl rfl (cw_seq ?_)))))
    refine cw_region (oab rfl rfl (ow_nil (seqK_n (cw_ret (seqK_r ?_)))))
    refine fnK_r (res1 rfl (rv_t (v := .bool _) rfl)) (.refl _) ?_
    refine congrArg Value.bool (spare_t fun hh => ?_)
    obtain ⟨t1, t2, t3, t4, t5, t6, t7, t8, t9, t10, t11⟩ := told_iff.1 hh
    first
      | (have := t1 (by omega); contradiction)
      | (have := t2 (by omega); contradiction)
      | (have := t3 (by omega) (by omega); contradiction)
      | (have := t4 (by omega) (by omega) (by omega) (by omega); contradiction)
      | (have := t5 (by omega); contradiction)
      | (have := t6 (by omega); contradiction)
      | (have := t7 (by omega); contradiction)
      | (have := t8 (by omega); contradiction)
      | (have := t9 (by omega); contradiction)
      | (have := t10 (by omega); contradiction)
      | (have := t11 (by omega) (by omega); contradiction)
  have h280 := not_f h277
  have p281 := dt h280
  refine ow1 (op1_g rfl h277 rfl (lo_move (v := .int _ _) rfl) ?_)
  refine ow1 (op1_g rfl h277 rfl (lo_neq rfl rfl) ?_)
  refine ow1 (op1_g rfl h277 rfl (lo_move (v := .bool _) rfl) ?_)
  refine ow1 (op1_g rfl (by rw [(fd (by omega))] <;> rfl) rfl (lo_fieldAddr rfl fl66_6) ?_)
  refine ow1 (op1_g rfl (by rw [(fd (by omega))] <;> rfl) rfl (lo_load1 (i := 0) (v := .int _ _) rfl ag25 rfl rfl) ?_)
  refine ow1 (op1_g rfl (by rw [(fd (by omega))] <;> rfl) rfl (lo_neq rfl rfl) ?_)
  refine ow1 (op1_g rfl (by rw [(fd (by omega))] <;> rfl) rfl (lo_move (v := .bool _) rfl) ?_)
  refine ow_sp (j := 15) rfl (fun h282 => ?_) (fun h282 => ?_)
  · have h283 := not_t h282
    have p284 := df h283
    refine og rfl h282 rfl (og rfl h282 rfl (og rfl h282 rfl ?_))
    refine ow1 (op1_g rfl (by rw [(fd (by omega))] <;> rfl) rfl (lo_pick_t (v := .bool _) rfl h282 rfl) ?_)
    refine ow1 (op1_g rfl h277 rfl (lo_pick_t (v := .bool _) rfl (by rw [(fd (by omega))] <;> rfl) rfl) ?_)
    refine ol rfl (lo_pick_f (v := .bool _) rfl h277 rfl) (ow_nil (seqK_n (cw_cond_t rfl rfl (cw_seq (cw_region ?_)))))
    refine oab rfl rfl (ow_nil (seqK_n (cw_ret (seqK_r (fnK_r (res1 rfl (rv_t (v := .bool _) rfl)) (.refl _) ?_)))))
    refine congrArg Value.bool (spare_t fun hh => ?_)
    obtain ⟨t1, t2, t3, t4, t5, t6, t7, t8, t9, t10, t11⟩ := told_iff.1 hh
    first
      | (have := t1 (by omega); contradiction)
      | (have := t2 (by omega); contradiction)
      | (have := t3 (by omega) (by omega); contradiction)
      | (have := t4 (by omega) (by omega) (by omega) (by omega); contradiction)
      | (have := t5 (by omega); contradiction)
      | (have := t6 (by omega); contradiction)
      | (have := t7 (by omega); contradiction)
      | (have := t8 (by omega); contradiction)
      | (have := t9 (by omega); contradiction)
      | (have := t10 (by omega); contradiction)
      | (have := t11 (by omega) (by omega); contradiction)
  have h285 := not_f h282
  have p286 := dt h285
  refine ow1 (op1_g rfl h282 rfl (lo_fieldAddr rfl fl66_7) ?_)
  refine ow1 (op1_g rfl h282 rfl (lo_load1 (i := 0) (v := .int _ _) rfl ag5 rfl rfl) ?_)
  refine ow1 (op1_g rfl h282 rfl (lo_neq rfl rfl) ?_)
  refine ow1 (op1_g rfl (by rw [(fd (by omega))] <;> rfl) rfl (lo_pick_f (v := .bool _) rfl h282 rfl) ?_)
  refine ow1 (op1_g rfl h277 rfl (lo_pick_t (v := .bool _) rfl (by rw [(fd (by omega))] <;> rfl) rfl) ?_)
  refine ol rfl (lo_pick_f (v := .bool _) rfl h277 rfl) (ow_nil (seqK_n (cw_cond rfl (fun h287 => ?_) (fun h287 => ?_))))
  · have h288 := not_t h287
    have p289 := df h288
    refine cw_seq (cw_region (oab rfl rfl (ow_nil (seqK_n (cw_ret ?_)))))
    refine seqK_r (fnK_r (res1 rfl (rv_t (v := .bool _) rfl)) (.refl _) ?_)
    refine congrArg Value.bool (spare_t fun hh => ?_)
    obtain ⟨t1, t2, t3, t4, t5, t6, t7, t8, t9, t10, t11⟩ := told_iff.1 hh
    first
      | (have := t1 (by omega); contradiction)
      | (have := t2 (by omega); contradiction)
      | (have := t3 (by omega) (by omega); contradiction)
      | (have := t4 (by omega) (by omega) (by omega) (by omega); contradiction)
      | (have := t5 (by omega); contradiction)
      | (have := t6 (by omega); contradiction)
      | (have := t7 (by omega); contradiction)
      | (have := t8 (by omega); contradiction)
      | (have := t9 (by omega); contradiction)
      | (have := t10 (by omega); contradiction)
      | (have := t11 (by omega) (by omega); contradiction)
  have h290 := not_f h287
  have p291 := dt h290
  refine cw_skip (seqK_n (cw_seq (cw_seq (cw_region (omi rfl rfl ?_)))))
  refine ol rfl (lo_neq rfl rfl) (omb rfl rfl ?_)
  refine ow1 (op1_g rfl (by rw [(fd (by omega))] <;> rfl) rfl (lo_fieldAddr rfl fl66_8) ?_)
  refine ow1 (op1_g rfl (by rw [(fd (by omega))] <;> rfl) rfl (lo_load1 (i := 0) (v := .int _ _) rfl ag5 rfl rfl) ?_)
  refine ow1 (op1_g rfl (by rw [(fd (by omega))] <;> rfl) rfl (lo_neq rfl rfl) ?_)
  refine ow1 (op1_g rfl (by rw [(fd (by omega))] <;> rfl) rfl (lo_move (v := .bool _) rfl) ?_)
  refine ow_sp (j := 6) rfl (fun h292 => ?_) (fun h292 => ?_)
  · have h293 := not_t h292
    have p294 := df h293
    refine og rfl h292 rfl (og rfl h292 rfl (og rfl h292 rfl ?_))
    refine ow1 (op1_g rfl (by rw [(fd (by omega))] <;> rfl) rfl (lo_pick_t (v := .bool _) rfl h292 rfl) ?_)
    refine ol rfl (lo_pick_t (v := .bool _) rfl (by rw [(fd (by omega))] <;> rfl) rfl) (omb rfl rfl (og rfl rfl rfl (og rfl rfl rfl (og rfl rfl rfl ?_))))
    refine ow1 (op1_gx (j := 15) rfl rfl ?_)
    refine ow1 (op1_gx (j := 15) rfl rfl ?_)
    refine ow1 (op1_gx (j := 15) rfl rfl ?_)
    refine ow1 (op1_gx (j := 15) rfl rfl ?_)
    refine ow1 (op1_gx (j := 19) rfl rfl ?_)
    refine ow1 (op1_gx (j := 19) rfl rfl ?_)
    refine ow1 (op1_gx (j := 19) rfl rfl ?_)
    refine ow1 (op1_gx (j := 15) rfl rfl ?_)
    refine og rfl rfl rfl (ol rfl (lo_pick_t (v := .bool _) rfl rfl rfl) (ow_nil (seqK_n (cw_cond_t rfl rfl (cw_seq ?_)))))
    refine cw_region (oab rfl rfl (ow_nil (seqK_n (cw_ret (seqK_r ?_)))))
    refine fnK_r (res1 rfl (rv_t (v := .bool _) rfl)) (.refl _) ?_
    refine congrArg Value.bool (spare_t fun hh => ?_)
    obtain ⟨t1, t2, t3, t4, t5, t6, t7, t8, t9, t10, t11⟩ := told_iff.1 hh
    first
      | (have := t1 (by omega); contradiction)
      | (have := t2 (by omega); contradiction)
      | (have := t3 (by omega) (by omega); contradiction)
      | (have := t4 (by omega) (by omega) (by omega) (by omega); contradiction)
      | (have := t5 (by omega); contradiction)
      | (have := t6 (by omega); contradiction)
      | (have := t7 (by omega); contradiction)
      | (have := t8 (by omega); contradiction)
      | (have := t9 (by omega); contradiction)
      | (have := t10 (by omega); contradiction)
      | (have := t11 (by omega) (by omega); contradiction)
  have h295 := not_f h292
  have p296 := dt h295
  refine ow1 (op1_g rfl h292 rfl (lo_fieldAddr rfl fl66_10) ?_)
  refine ow1 (op1_g rfl h292 rfl (lo_load1 (i := 0) (v := .int _ _) rfl ag25 rfl rfl) ?_)
  refine ow1 (op1_g rfl h292 rfl (lo_neq rfl rfl) ?_)
  refine ow1 (op1_g rfl (by rw [(fd (by omega))] <;> rfl) rfl (lo_pick_f (v := .bool _) rfl h292 rfl) ?_)
  refine ol rfl (lo_pick_t (v := .bool _) rfl (by rw [(fd (by omega))] <;> rfl) rfl) (omb rfl rfl (ow_sp (j := 12) rfl (fun h297 => ?_) (fun h297 => ?_)))
  · have h298 := not_t h297
    have p299 := df h298
    refine og rfl h297 rfl (og rfl h297 rfl (og rfl h297 rfl ?_))
    refine ow1 (op1_gx (j := 15) rfl rfl ?_)
    refine ow1 (op1_gx (j := 15) rfl rfl ?_)
    refine ow1 (op1_gx (j := 15) rfl rfl ?_)
    refine ow1 (op1_gx (j := 15) rfl rfl ?_)
    refine ow1 (op1_gx (j := 19) rfl rfl ?_)
    refine ow1 (op1_gx (j := 19) rfl rfl ?_)
    refine ow1 (op1_gx (j := 19) rfl rfl ?_)
    refine ow1 (op1_gx (j := 15) rfl rfl ?_)
    refine og rfl h297 rfl (ol rfl (lo_pick_t (v := .bool _) rfl h297 rfl) (ow_nil (seqK_n (cw_cond_t rfl rfl (cw_seq ?_)))))
    refine cw_region (oab rfl rfl (ow_nil (seqK_n (cw_ret (seqK_r ?_)))))
    refine fnK_r (res1 rfl (rv_t (v := .bool _) rfl)) (.refl _) ?_
    refine congrArg Value.bool (spare_t fun hh => ?_)
    obtain ⟨t1, t2, t3, t4, t5, t6, t7, t8, t9, t10, t11⟩ := told_iff.1 hh
    first
      | (have := t1 (by omega); contradiction)
      | (have := t2 (by omega); contradiction)
      | (have := t3 (by omega) (by omega); contradiction)
      | (have := t4 (by omega) (by omega) (by omega) (by omega); contradiction)
      | (have := t5 (by omega); contradiction)
      | (have := t6 (by omega); contradiction)
      | (have := t7 (by omega); contradiction)
      | (have := t8 (by omega); contradiction)
      | (have := t9 (by omega); contradiction)
      | (have := t10 (by omega); contradiction)
      | (have := t11 (by omega) (by omega); contradiction)
  have h300 := not_f h297
  have p301 := dt h300
  refine ow1 (op1_g rfl h297 rfl (lo_move (v := .int _ _) rfl) ?_)
  refine ow1 (op1_g rfl h297 rfl (lo_neq rfl rfl) ?_)
  refine ow1 (op1_g rfl h297 rfl (lo_move (v := .bool _) rfl) ?_)
  refine ow1 (op1_g rfl (by rw [(fd (by omega))] <;> rfl) rfl (lo_fieldAddr rfl fl66_9) ?_)
  refine ow1 (op1_g rfl (by rw [(fd (by omega))] <;> rfl) rfl (lo_load1 (i := 0) (v := .int _ _) rfl ag5 rfl rfl) ?_)
  refine ow1 (op1_g rfl (by rw [(fd (by omega))] <;> rfl) rfl (lo_neq rfl rfl) ?_)
  refine ow1 (op1_g rfl (by rw [(fd (by omega))] <;> rfl) rfl (lo_move (v := .bool _) rfl) ?_)
  refine ow_sp (j := 19) rfl (fun h302 => ?_) (fun h302 => ?_)
  · have h303 := not_t h302
    have p304 := df h303
    refine og rfl h302 rfl (og rfl h302 rfl (og rfl h302 rfl ?_))
    refine ow1 (op1_g rfl (by rw [(fd (by omega))] <;> rfl) rfl (lo_pick_t (v := .bool _) rfl h302 rfl) ?_)
    refine ow1 (op1_g rfl h297 rfl (lo_pick_t (v := .bool _) rfl (by rw [(fd (by omega))] <;> rfl) rfl) ?_)
    refine ol rfl (lo_pick_f (v := .bool _) rfl h297 rfl) (ow_nil (seqK_n (cw_cond_t rfl rfl (cw_seq (cw_region ?_)))))
    refine oab rfl rfl (ow_nil (seqK_n (cw_ret (seqK_r (fnK_r (res1 rfl (rv_t (v := .bool _) rfl)) (.refl _) ?_)))))
    refine congrArg Value.bool (spare_t fun hh => ?_)
    obtain ⟨t1, t2, t3, t4, t5, t6, t7, t8, t9, t10, t11⟩ := told_iff.1 hh
    first
      | (have := t1 (by omega); contradiction)
      | (have := t2 (by omega); contradiction)
      | (have := t3 (by omega) (by omega); contradiction)
      | (have := t4 (by omega) (by omega) (by omega) (by omega); contradiction)
      | (have := t5 (by omega); contradiction)
      | (have := t6 (by omega); contradiction)
      | (have := t7 (by omega); contradiction)
      | (have := t8 (by omega); contradiction)
      | (have := t9 (by omega); contradiction)
      | (have := t10 (by omega); contradiction)
      | (have := t11 (by omega) (by omega); contradiction)
  have h305 := not_f h302
  have p306 := dt h305
  refine ow1 (op1_g rfl h302 rfl (lo_fieldAddr rfl fl66_12) ?_)
  refine ow1 (op1_g rfl h302 rfl (lo_load1 (i := 0) (v := str _) rfl ag9 rfl rfl) ?_)
  refine ow1 (op1_g rfl h302 rfl (lo_sneq rfl rfl) ?_)
  refine ow1 (op1_g rfl (by rw [(fd (by omega))] <;> rfl) rfl (lo_pick_f (v := .bool _) rfl h302 rfl) ?_)
  refine ow1 (op1_g rfl h297 rfl (lo_pick_t (v := .bool _) rfl (by rw [(fd (by omega))] <;> rfl) rfl) ?_)
  refine ol rfl (lo_pick_f (v := .bool _) rfl h297 rfl) (ow_nil (seqK_n (cw_cond rfl (fun h307 => ?_) (fun h307 => ?_))))
  · have h308 := not_t h307
    have p309 := df h308
    refine cw_seq (cw_region (oab rfl rfl (ow_nil (seqK_n (cw_ret ?_)))))
    refine seqK_r (fnK_r (res1 rfl (rv_t (v := .bool _) rfl)) (.refl _) ?_)
    refine congrArg Value.bool (spare_t fun hh => ?_)
    obtain ⟨t1, t2, t3, t4, t5, t6, t7, t8, t9, t10, t11⟩ := told_iff.1 hh
    first
      | (have := t1 (by omega); contradiction)
      | (have := t2 (by omega); contradiction)
      | (have := t3 (by omega) (by omega); contradiction)
      | (have := t4 (by omega) (by omega) (by omega) (by omega); contradiction)
      | (have := t5 (by omega); contradiction)
      | (have := t6 (by omega); contradiction)
      | (have := t7 (by omega); contradiction)
      | (have := t8 (by omega); contradiction)
      | (have := t9 (by omega); contradiction)
      | (have := t10 (by omega); contradiction)
      | (have := t11 (by omega) (by omega); contradiction)
  have h310 := not_f h307
  have p311 := dt h310
  refine cw_skip (seqK_n (cw_seq (cw_region (omi rfl rfl (ol rfl (lo_neq rfl rfl) ?_)))))
  refine omb rfl rfl ?_
  refine ow1 (op1_g rfl (by rw [(fd (by omega))] <;> rfl) rfl (lo_move (v := .int _ _) rfl) ?_)
  refine ow1 (op1_g rfl (by rw [(fd (by omega))] <;> rfl) rfl (lo_neq rfl rfl) ?_)
  refine ol rfl (lo_pick_t (v := .bool _) rfl (by rw [(fd (by omega))] <;> rfl) rfl) (omb rfl rfl ?_)
  refine ow1 (op1_g rfl (by rw [(fd (by omega))] <;> rfl) rfl (lo_fieldAddr rfl fl66_11) ?_)
  refine ow1 (op1_g rfl (by rw [(fd (by omega))] <;> rfl) rfl (lo_loadA (i := 0) (vs := [_, _, _, _, _, _, _]) rfl ag28 sz28 rfl rfl rfl) ?_)
  refine ow1 (op1_g rfl (by rw [(fd (by omega))] <;> rfl) rfl (lo_build (v := .agg #[_, _, _, _, _, _, _]) rfl (bd28)) ?_)
  refine ow1 (op1_prg rfl (by rw [(fd (by omega))] <;> rfl) (r13_Same _ d.mail d_mail_head_a d_mail_head_c d_mail_head_h (by simp only [Mail.wf]; first | omega | (simp; done) | (simp; omega)) (⟨0, [], [], [], [], 0, 0⟩ : Mail) none 0 slh_nil (by simp only [Mail.wf]; first | omega | (simp; done) | (simp; omega))) (en_f cb129 rfl) rfl ?_)
  refine ow1 (op1_g rfl (by rw [(fd (by omega))] <;> rfl) rfl (lo_not rfl) ?_)
  refine ol rfl (lo_pick_t (v := .bool _) rfl (by rw [(fd (by omega))] <;> rfl) rfl) (oab rfl rfl (ow_nil (seqK_n (cw_ret (fnK_r (res1 rfl (rv_t (v := .bool _) rfl)) (.refl _) ?_)))))
  refine congrArg Value.bool (congrArg (fun b => !b) ?_)
  rw [Bool.eq_iff_iff]
  simp only [decide_eq_true_eq]
  constructor
  · intro hm; exact told_iff.2 ⟨(by intros; first | assumption | omega), (by intros; first | assumption | omega), (by intros; first | assumption | omega), (by intros; first | assumption | omega), (by intros; first | assumption | omega), (by intros; first | assumption | omega), (by intros; first | assumption | omega), (by intros; first | assumption | omega), (by intros; first | assumption | omega), (by intros; first | assumption | omega), fun _ _ => hm⟩
  intro hh; obtain ⟨_, _, _, _, _, _, _, _, _, _, t11⟩ := told_iff.1 hh; exact t11 (by omega) (by omega)
end Go.SW
