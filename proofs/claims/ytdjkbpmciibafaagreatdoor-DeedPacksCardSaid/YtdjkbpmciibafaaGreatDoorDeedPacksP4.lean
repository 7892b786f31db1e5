/-
  A part of the proof of DeedPacks: The walks of this seat, printed by program: deed.sameBind, mail.Same, deed.Same. The walks of this seat, printed by program: deed.Deed.told. The walks of this seat, printed by program: deed.first, deed.Deed.Check. The walks of this seat, printed by program: api.Pair], deed.Deed]. The walks of this seat, printed by program: deed.Deed.Bytes.
-/
import Derived.Test.YtdjkbpmciibafaaGreatDoorProg
import Derived.Test.YtdjkbpmciibafaaGreatDoorDeedPacksP2
import Derived.KernelRfl
import Derived.Test.YtdjkbpmciibafaaGreatDoorDeedPacksP3
set_option linter.unusedVariables false
set_option linter.unusedSimpArgs false
set_option linter.unusedVariables false
set_option maxRecDepth 100000
set_option maxHeartbeats 4000000
namespace Go.SW
open Go.Proofs
theorem ag54 : Ag Tryz.prog 54 true := fun w => by kernel_rfl
theorem ag56 : Ag Tryz.prog 56 true := fun w => by kernel_rfl
theorem ag58 : Ag Tryz.prog 58 true := fun w => by kernel_rfl
theorem cb126 : Callable Tryz.prog 126 := callable_of Tryz.func126 (by kernel_rfl) (by kernel_rfl)
theorem cb127 : Callable Tryz.prog 127 := callable_of Tryz.func127 (by kernel_rfl) (by kernel_rfl)
theorem eqr54 (p q : ShopR) (d : Nat) : EqV Tryz.prog (d + 1 + 1) 54 (.agg (ShopR.cells p).toArray) (.agg (ShopR.cells q).toArray) (decide (p = q)) :=
  EqV.to (eqv_agg Tryz.underlying54 (by kernel_rfl) (eqf_1 (by decide) ag9 rfl rfl (eqv_str Tryz.underlying9) (eqf_1 (by decide) ag5 rfl rfl (eqv_int Tryz.underlying5) (eqf_1 (by decide) ag9 rfl rfl (eqv_str Tryz.underlying9) eqf_nil)))) (by obtain ⟨a0, a1, a2⟩ := p; obtain ⟨b0, b1, b2⟩ := q; rw [Bool.eq_iff_iff]; simp)
theorem eqg54 : Tryz.prog.eqGuardType Tryz.prog.depth 54 = false := by kernel_rfl
theorem eqr56 (p q : QueueR) (d : Nat) : EqV Tryz.prog (d + 1 + 1) 56 (.agg (QueueR.cells p).toArray) (.agg (QueueR.cells q).toArray) (decide (p = q)) :=
  EqV.to (eqv_agg Tryz.underlying56 (by kernel_rfl) (eqf_1 (by decide) ag9 rfl rfl (eqv_str Tryz.underlying9) (eqf_1 (by decide) ag25 rfl rfl (eqv_int Tryz.underlying25) (eqf_1 (by decide) ag25 rfl rfl (eqv_int Tryz.underlying25) (eqf_1 (by decide) ag9 rfl rfl (eqv_str Tryz.underlying9) eqf_nil))))) (by obtain ⟨a0, a1, a2, a3⟩ := p; obtain ⟨b0, b1, b2, b3⟩ := q; rw [Bool.eq_iff_iff]; simp)
theorem eqg56 : Tryz.prog.eqGuardType Tryz.prog.depth 56 = false := by kernel_rfl
theorem fl58_0 : Fld Tryz.prog 58 0 0 := fun b o w => by kernel_rfl
theorem fl58_1 : Fld Tryz.prog 58 1 1 := fun b o w => by kernel_rfl
theorem fl58_2 : Fld Tryz.prog 58 2 2 := fun b o w => by kernel_rfl
theorem fl58_3 : Fld Tryz.prog 58 3 3 := fun b o w => by kernel_rfl
theorem fl58_4 : Fld Tryz.prog 58 4 4 := fun b o w => by kernel_rfl
theorem fl58_5 : Fld Tryz.prog 58 5 5 := fun b o w => by kernel_rfl
theorem fl60_0 : Fld Tryz.prog 60 0 0 := fun b o w => by kernel_rfl
theorem fl60_1 : Fld Tryz.prog 60 1 1 := fun b o w => by kernel_rfl
theorem fl60_10 : Fld Tryz.prog 60 10 20 := fun b o w => by kernel_rfl
theorem fl60_11 : Fld Tryz.prog 60 11 21 := fun b o w => by kernel_rfl
theorem fl60_12 : Fld Tryz.prog 60 12 28 := fun b o w => by kernel_rfl
theorem fl60_2 : Fld Tryz.prog 60 2 2 := fun b o w => by kernel_rfl
theorem fl60_3 : Fld Tryz.prog 60 3 5 := fun b o w => by kernel_rfl
theorem fl60_4 : Fld Tryz.prog 60 4 9 := fun b o w => by kernel_rfl
theorem fl60_5 : Fld Tryz.prog 60 5 15 := fun b o w => by kernel_rfl
theorem fl60_6 : Fld Tryz.prog 60 6 16 := fun b o w => by kernel_rfl
theorem fl60_7 : Fld Tryz.prog 60 7 17 := fun b o w => by kernel_rfl
theorem fl60_8 : Fld Tryz.prog 60 8 18 := fun b o w => by kernel_rfl
theorem fl60_9 : Fld Tryz.prog 60 9 19 := fun b o w => by kernel_rfl
theorem sz54 : Sz Tryz.prog 54 3 := fun w => by kernel_rfl
theorem sz56 : Sz Tryz.prog 56 4 := fun w => by kernel_rfl
theorem sz58 : Sz Tryz.prog 58 6 := fun w => by kernel_rfl
theorem deed_sameBind (H : Hp) (a : BindR) (a_want_a : Option Addr) (a_want_c : Nat) (a_want_h : SlH pairE 4 H (.slice a_want_a a.want.length a_want_c) a.want) (a_w : BindR.wf a) (b : BindR) (b_want_a : Option Addr) (b_want_c : Nat) (b_want_h : SlH pairE 4 H (.slice b_want_a b.want.length b_want_c) b.want) (b_w : BindR.wf b) : Pr Tryz.prog 126 #[.agg (BindR.cells a a_want_a a_want_c).toArray, .agg (BindR.cells b b_want_a b_want_c).toArray] H (.bool (decide (a = b))) := by
  refine pr_cw Tryz.func126 rfl Tryz.ntmps126 rfl (fun N => ?_)
  have a_w' := a_w
  simp only [BindR.wf] at a_w'
  have b_w' := b_w
  simp only [BindR.wf] at b_w'
  refine cw_seq (cw_region (ow1 (op1_box (cs := [_, _, _, _, _, _]) 0 rfl rfl (fun b1 => ?_))))
  refine ow1 (op1_box (cs := [_, _, _, _, _, _]) 1 rfl rfl (fun b2 => ?_))
  refine oab rfl rfl (ow_nil (seqK_n (cw_seq (cw_region (ol rfl (lo_fieldAddr rfl fl58_0) ?_)))))
  refine ol rfl (lo_load1 (i := 0) (v := str _) rfl ag9 rfl rfl) (ol rfl (lo_fieldAddr rfl fl58_0) (ol rfl (lo_load1 (i := 1) (v := str _) rfl ag9 rfl rfl) (ol rfl (lo_seql rfl rfl) (omb rfl rfl (ow_sp (j := 5) rfl (fun h3 => ?_) (fun h3 => ?_))))))
  · have p4 := dt h3
    refine ow1 (op1_g rfl h3 rfl (lo_fieldAddr rfl fl58_1) ?_)
    refine ow1 (op1_g rfl h3 rfl (lo_load1 (i := 0) (v := str _) rfl ag9 rfl rfl) ?_)
    refine ow1 (op1_g rfl h3 rfl (lo_fieldAddr rfl fl58_1) ?_)
    refine ow1 (op1_g rfl h3 rfl (lo_load1 (i := 1) (v := str _) rfl ag9 rfl rfl) ?_)
    refine ow1 (op1_g rfl h3 rfl (lo_seql rfl rfl) ?_)
    refine ol rfl (lo_pick_t (v := .bool _) rfl h3 rfl) (omb rfl rfl (ow_sp (j := 12) rfl (fun h5 => ?_) (fun h5 => ?_)))
    · have p6 := dt h5
      refine ow1 (op1_g rfl h5 rfl (lo_fieldAddr rfl fl58_2) ?_)
      refine ow1 (op1_g rfl h5 rfl (lo_load1 (i := 0) (v := .bool _) rfl ag4 rfl rfl) ?_)
      refine ow1 (op1_g rfl h5 rfl (lo_fieldAddr rfl fl58_2) ?_)
      refine ow1 (op1_g rfl h5 rfl (lo_load1 (i := 1) (v := .bool _) rfl ag4 rfl rfl) ?_)
      refine ow1 (op1_g rfl h5 rfl (lo_beql rfl rfl Tryz.underlying4) ?_)
      refine ol rfl (lo_pick_t (v := .bool _) rfl h5 rfl) (omb rfl rfl (ow_sp (j := 19) rfl (fun h7 => ?_) (fun h7 => ?_)))
      · have p8 := beqT h7
        refine ow1 (op1_g rfl h7 rfl (lo_fieldAddr rfl fl58_3) ?_)
        refine ow1 (op1_g rfl h7 rfl (lo_load1 (i := 0) (v := str _) rfl ag9 rfl rfl) ?_)
        refine ow1 (op1_g rfl h7 rfl (lo_fieldAddr rfl fl58_3) ?_)
        refine ow1 (op1_g rfl h7 rfl (lo_load1 (i := 1) (v := str _) rfl ag9 rfl rfl) ?_)
        refine ow1 (op1_g rfl h7 rfl (lo_seql rfl rfl) ?_)
        refine ol rfl (lo_pick_t (v := .bool _) rfl h7 rfl) (omb rfl rfl (ow_sp (j := 26) rfl (fun h9 => ?_) (fun h9 => ?_)))
        · have p10 := dt h9
          refine ow1 (op1_g rfl h9 rfl (lo_fieldAddr rfl fl58_4) ?_)
          refine ow1 (op1_g rfl h9 rfl (lo_load1 (i := 0) (v := .slice _ _ _) rfl ag26 rfl rfl) ?_)
          refine ow1 (op1_g rfl h9 rfl (lo_fieldAddr rfl fl58_4) ?_)
          refine ow1 (op1_g rfl h9 rfl (lo_load1 (i := 1) (v := .slice _ _ _) rfl ag26 rfl rfl) ?_)
          refine ow1 (op1_prg rfl h9 (head_Same _ a_want_a a.want.length a_want_c a.want a_want_h b_want_a b.want.length b_want_c b.want b_want_h (by first | omega | (simp <;> omega))) (en_f cb145 rfl) rfl ?_)
          refine ol rfl (lo_pick_t (v := .bool _) rfl h9 rfl) (omb rfl rfl (ow_sp (j := 33) rfl (fun h11 => ?_) (fun h11 => ?_)))
          · refine ow1 (op1_g rfl h11 rfl (lo_fieldAddr rfl fl58_5) ?_)
            refine ow1 (op1_g rfl h11 rfl (lo_load1 (i := 0) (v := .bool _) rfl ag4 rfl rfl) ?_)
            refine ow1 (op1_g rfl h11 rfl (lo_fieldAddr rfl fl58_5) ?_)
            refine ow1 (op1_g rfl h11 rfl (lo_load1 (i := 1) (v := .bool _) rfl ag4 rfl rfl) ?_)
            refine ow1 (op1_g rfl h11 rfl (lo_beql rfl rfl Tryz.underlying4) ?_)
            refine ol rfl (lo_pick_t (v := .bool _) rfl h11 rfl) (oab rfl rfl (ow_nil (seqK_n (cw_ret (fnK_r (res1 rfl (rv_t (v := .bool _) rfl)) (.refl _) ?_)))))
            first | (simp [BindR.eq_iff, *]; done) | (simp [BindR.eq_iff, *]; cases a.all <;> cases b.all <;> rfl)
          refine og rfl h11 rfl (og rfl h11 rfl (og rfl h11 rfl (og rfl h11 rfl (og rfl h11 rfl (ol rfl (lo_pick_f (v := .bool _) rfl h11 rfl) ?_)))))
          refine oab rfl rfl (ow_nil (seqK_n (cw_ret (fnK_r (res1 rfl (rv_t (v := .bool _) rfl)) (.refl _) ?_))))
          first | (simp [BindR.eq_iff, *]; done) | (simp [BindR.eq_iff, *]; cases a.all <;> cases b.all <;> rfl)
        have p12 := df h9
        refine og rfl h9 rfl (og rfl h9 rfl (og rfl h9 rfl (og rfl h9 rfl (og rfl h9 rfl (ol rfl (lo_pick_f (v := .bool _) rfl h9 rfl) ?_)))))
        refine omb rfl rfl (og rfl rfl rfl (og rfl rfl rfl (og rfl rfl rfl (og rfl rfl rfl (og rfl rfl rfl ?_)))))
        refine ol rfl (lo_pick_f (v := .bool _) rfl rfl rfl) (oab rfl rfl (ow_nil (seqK_n (cw_ret (fnK_r (res1 rfl (rv_t (v := .bool _) rfl)) (.refl _) ?_)))))
        first | (simp [BindR.eq_iff, *]; done) | (simp [BindR.eq_iff, *]; cases a.all <;> cases b.all <;> rfl)
      have p13 := beqF h7
      refine og rfl h7 rfl (og rfl h7 rfl (og rfl h7 rfl (og rfl h7 rfl (og rfl h7 rfl (ol rfl (lo_pick_f (v := .bool _) rfl h7 rfl) ?_)))))
      refine omb rfl rfl (og rfl rfl rfl (og rfl rfl rfl (og rfl rfl rfl (og rfl rfl rfl (og rfl rfl rfl ?_)))))
      refine ol rfl (lo_pick_f (v := .bool _) rfl rfl rfl) (omb rfl rfl (og rfl rfl rfl (og rfl rfl rfl (og rfl rfl rfl (og rfl rfl rfl ?_)))))
      refine og rfl rfl rfl (ol rfl (lo_pick_f (v := .bool _) rfl rfl rfl) (oab rfl rfl (ow_nil (seqK_n (cw_ret ?_)))))
      refine fnK_r (res1 rfl (rv_t (v := .bool _) rfl)) (.refl _) ?_
      first | (simp [BindR.eq_iff, *]; done) | (simp [BindR.eq_iff, *]; cases a.all <;> cases b.all <;> rfl)
    have p14 := df h5
    refine og rfl h5 rfl (og rfl h5 rfl (og rfl h5 rfl (og rfl h5 rfl (og rfl h5 rfl (ol rfl (lo_pick_f (v := .bool _) rfl h5 rfl) ?_)))))
    refine omb rfl rfl (og rfl rfl rfl (og rfl rfl rfl (og rfl rfl rfl (og rfl rfl rfl (og rfl rfl rfl ?_)))))
    refine ol rfl (lo_pick_f (v := .bool _) rfl rfl rfl) (omb rfl rfl (og rfl rfl rfl (og rfl rfl rfl (og rfl rfl rfl (og rfl rfl rfl ?_)))))
    refine og rfl rfl rfl (ol rfl (lo_pick_f (v := .bool _) rfl rfl rfl) (omb rfl rfl (og rfl rfl rfl (og rfl rfl rfl (og rfl rfl rfl ?_)))))
    refine og rfl rfl rfl (og rfl rfl rfl (ol rfl (lo_pick_f (v := .bool _) rfl rfl rfl) (oab rfl rfl (ow_nil (seqK_n ?_)))))
    refine cw_ret (fnK_r (res1 rfl (rv_t (v := .bool _) rfl)) (.refl _) ?_)
    first | (simp [BindR.eq_iff, *]; done) | (simp [BindR.eq_iff, *]; cases a.all <;> cases b.all <;> rfl)
  have p15 := df h3
  refine og rfl h3 rfl (og rfl h3 rfl (og rfl h3 rfl (og rfl h3 rfl (og rfl h3 rfl (ol rfl (lo_pick_f (v := .bool _) rfl h3 rfl) ?_)))))
  refine omb rfl rfl (og rfl rfl rfl (og rfl rfl rfl (og rfl rfl rfl (og rfl rfl rfl (og rfl rfl rfl ?_)))))
  refine ol rfl (lo_pick_f (v := .bool _) rfl rfl rfl) (omb rfl rfl (og rfl rfl rfl (og rfl rfl rfl (og rfl rfl rfl (og rfl rfl rfl ?_)))))
  refine og rfl rfl rfl (ol rfl (lo_pick_f (v := .bool _) rfl rfl rfl) (omb rfl rfl (og rfl rfl rfl (og rfl rfl rfl (og rfl rfl rfl ?_)))))
  refine og rfl rfl rfl (og rfl rfl rfl (ol rfl (lo_pick_f (v := .bool _) rfl rfl rfl) (omb rfl rfl (og rfl rfl rfl (og rfl rfl rfl ?_)))))
  refine og rfl rfl rfl (og rfl rfl rfl (og rfl rfl rfl (ol rfl (lo_pick_f (v := .bool _) rfl rfl rfl) (oab rfl rfl (ow_nil ?_)))))
  refine seqK_n (cw_ret (fnK_r (res1 rfl (rv_t (v := .bool _) rfl)) (.refl _) ?_))
  first | (simp [BindR.eq_iff, *]; done) | (simp [BindR.eq_iff, *]; cases a.all <;> cases b.all <;> rfl)
theorem mail_Same (H : Hp) (a : Mail) (a_head_a : Option Addr) (a_head_c : Nat) (a_head_h : SlH pairE 4 H (.slice a_head_a a.head.length a_head_c) a.head) (a_w : Mail.wf a) (b : Mail) (b_head_a : Option Addr) (b_head_c : Nat) (b_head_h : SlH pairE 4 H (.slice b_head_a b.head.length b_head_c) b.head) (b_w : Mail.wf b) : Pr Tryz.prog 127 #[.agg (Mail.cells a a_head_a a_head_c).toArray, .agg (Mail.cells b b_head_a b_head_c).toArray] H (.bool (decide (a = b))) := by
  refine pr_cw Tryz.func127 rfl Tryz.ntmps127 rfl (fun N => ?_)
  have a_w' := a_w
  simp only [Mail.wf] at a_w'
  have b_w' := b_w
  simp only [Mail.wf] at b_w'
  refine cw_seq (cw_region (ow1 (op1_box (cs := [_, _, _, _, _, _, _]) 0 rfl rfl (fun b1 => ?_))))
  refine ow1 (op1_box (cs := [_, _, _, _, _, _, _]) 1 rfl rfl (fun b2 => ?_))
  refine oab rfl rfl (ow_nil (seqK_n (cw_seq (cw_region (ol rfl (lo_fieldAddr rfl fl28_0) ?_)))))
  refine ol rfl (lo_load1 (i := 0) (v := .int _ _) rfl ag25 rfl rfl) (ol rfl (lo_fieldAddr rfl fl28_0) (ol rfl (lo_load1 (i := 1) (v := .int _ _) rfl ag25 rfl rfl) (ol rfl (lo_eql rfl rfl) (omb rfl rfl (ow_sp (j := 5) rfl (fun h3 => ?_) (fun h3 => ?_))))))
  · have p4 := dt h3
    refine ow1 (op1_g rfl h3 rfl (lo_fieldAddr rfl fl28_1) ?_)
    refine ow1 (op1_g rfl h3 rfl (lo_load1 (i := 0) (v := str _) rfl ag9 rfl rfl) ?_)
    refine ow1 (op1_g rfl h3 rfl (lo_fieldAddr rfl fl28_1) ?_)
    refine ow1 (op1_g rfl h3 rfl (lo_load1 (i := 1) (v := str _) rfl ag9 rfl rfl) ?_)
    refine ow1 (op1_g rfl h3 rfl (lo_seql rfl rfl) ?_)
    refine ol rfl (lo_pick_t (v := .bool _) rfl h3 rfl) (omb rfl rfl (ow_sp (j := 12) rfl (fun h5 => ?_) (fun h5 => ?_)))
    · have p6 := dt h5
      refine ow1 (op1_g rfl h5 rfl (lo_fieldAddr rfl fl28_2) ?_)
      refine ow1 (op1_g rfl h5 rfl (lo_load1 (i := 0) (v := str _) rfl ag9 rfl rfl) ?_)
      refine ow1 (op1_g rfl h5 rfl (lo_fieldAddr rfl fl28_2) ?_)
      refine ow1 (op1_g rfl h5 rfl (lo_load1 (i := 1) (v := str _) rfl ag9 rfl rfl) ?_)
      refine ow1 (op1_g rfl h5 rfl (lo_seql rfl rfl) ?_)
      refine ol rfl (lo_pick_t (v := .bool _) rfl h5 rfl) (omb rfl rfl (ow_sp (j := 19) rfl (fun h7 => ?_) (fun h7 => ?_)))
      · have p8 := dt h7
        refine ow1 (op1_g rfl h7 rfl (lo_fieldAddr rfl fl28_3) ?_)
        refine ow1 (op1_g rfl h7 rfl (lo_load1 (i := 0) (v := .slice _ _ _) rfl ag26 rfl rfl) ?_)
        refine ow1 (op1_g rfl h7 rfl (lo_fieldAddr rfl fl28_3) ?_)
        refine ow1 (op1_g rfl h7 rfl (lo_load1 (i := 1) (v := .slice _ _ _) rfl ag26 rfl rfl) ?_)
        refine ow1 (op1_prg rfl h7 (head_Same _ a_head_a a.head.length a_head_c a.head a_head_h b_head_a b.head.length b_head_c b.head b_head_h (by first | omega | (simp <;> omega))) (en_f cb145 rfl) rfl ?_)
        refine ol rfl (lo_pick_t (v := .bool _) rfl h7 rfl) (omb rfl rfl (ow_sp (j := 26) rfl (fun h9 => ?_) (fun h9 => ?_)))
        · refine ow1 (op1_g rfl h9 rfl (lo_fieldAddr rfl fl28_4) ?_)
          refine ow1 (op1_g rfl h9 rfl (lo_load1 (i := 0) (v := str _) rfl ag9 rfl rfl) ?_)
          refine ow1 (op1_g rfl h9 rfl (lo_fieldAddr rfl fl28_4) ?_)
          refine ow1 (op1_g rfl h9 rfl (lo_load1 (i := 1) (v := str _) rfl ag9 rfl rfl) ?_)
          refine ow1 (op1_g rfl h9 rfl (lo_seql rfl rfl) ?_)
          refine ol rfl (lo_pick_t (v := .bool _) rfl h9 rfl) (omb rfl rfl (ow_sp (j := 33) rfl (fun h10 => ?_) (fun h10 => ?_)))
          · have p11 := dt h10
            refine ow1 (op1_g rfl h10 rfl (lo_fieldAddr rfl fl28_5) ?_)
            refine ow1 (op1_g rfl h10 rfl (lo_load1 (i := 0) (v := .int _ _) rfl ag25 rfl rfl) ?_)
            refine ow1 (op1_g rfl h10 rfl (lo_fieldAddr rfl fl28_5) ?_)
            refine ow1 (op1_g rfl h10 rfl (lo_load1 (i := 1) (v := .int _ _) rfl ag25 rfl rfl) ?_)
            refine ow1 (op1_g rfl h10 rfl (lo_eql rfl rfl) ?_)
            refine ol rfl (lo_pick_t (v := .bool _) rfl h10 rfl) (omb rfl rfl (ow_sp (j := 40) rfl (fun h12 => ?_) (fun h12 => ?_)))
            · have p13 := dt h12
              refine ow1 (op1_g rfl h12 rfl (lo_fieldAddr rfl fl28_6) ?_)
              refine ow1 (op1_g rfl h12 rfl (lo_load1 (i := 0) (v := .int _ _) rfl ag5 rfl rfl) ?_)
              refine ow1 (op1_g rfl h12 rfl (lo_fieldAddr rfl fl28_6) ?_)
              refine ow1 (op1_g rfl h12 rfl (lo_load1 (i := 1) (v := .int _ _) rfl ag5 rfl rfl) ?_)
              refine ow1 (op1_g rfl h12 rfl (lo_eql rfl rfl) ?_)
              refine ol rfl (lo_pick_t (v := .bool _) rfl h12 rfl) (oab rfl rfl (ow_nil (seqK_n (cw_ret (fnK_r (res1 rfl (rv_t (v := .bool _) rfl)) (.refl _) ?_)))))
              first | (simp [Mail.eq_iff, *]; done)
            have p14 := df h12
            refine og rfl h12 rfl (og rfl h12 rfl (og rfl h12 rfl (og rfl h12 rfl (og rfl h12 rfl (ol rfl (lo_pick_f (v := .bool _) rfl h12 rfl) ?_)))))
            refine oab rfl rfl (ow_nil (seqK_n (cw_ret (fnK_r (res1 rfl (rv_t (v := .bool _) rfl)) (.refl _) ?_))))
            first | (simp [Mail.eq_iff, *]; done)
          have p15 := df h10
          refine og rfl h10 rfl (og rfl h10 rfl (og rfl h10 rfl (og rfl h10 rfl (og rfl h10 rfl (ol rfl (lo_pick_f (v := .bool _) rfl h10 rfl) ?_)))))
          refine omb rfl rfl (og rfl rfl rfl (og rfl rfl rfl (og rfl rfl rfl (og rfl rfl rfl (og rfl rfl rfl ?_)))))
          refine ol rfl (lo_pick_f (v := .bool _) rfl rfl rfl) (oab rfl rfl (ow_nil (seqK_n (cw_ret (fnK_r (res1 rfl (rv_t (v := .bool _) rfl)) (.refl _) ?_)))))
          first | (simp [Mail.eq_iff, *]; done)
        refine og rfl h9 rfl (og rfl h9 rfl (og rfl h9 rfl (og rfl h9 rfl (og rfl h9 rfl (ol rfl (lo_pick_f (v := .bool _) rfl h9 rfl) ?_)))))
        refine omb rfl rfl (og rfl rfl rfl (og rfl rfl rfl (og rfl rfl rfl (og rfl rfl rfl (og rfl rfl rfl ?_)))))
        refine ol rfl (lo_pick_f (v := .bool _) rfl rfl rfl) (omb rfl rfl (og rfl rfl rfl (og rfl rfl rfl (og rfl rfl rfl (og rfl rfl rfl ?_)))))
        refine og rfl rfl rfl (ol rfl (lo_pick_f (v := .bool _) rfl rfl rfl) (oab rfl rfl (ow_nil (seqK_n (cw_ret ?_)))))
        refine fnK_r (res1 rfl (rv_t (v := .bool _) rfl)) (.refl _) ?_
        first | (simp [Mail.eq_iff, *]; done)
      have p16 := df h7
      refine og rfl h7 rfl (og rfl h7 rfl (og rfl h7 rfl (og rfl h7 rfl (og rfl h7 rfl (ol rfl (lo_pick_f (v := .bool _) rfl h7 rfl) ?_)))))
      refine omb rfl rfl (og rfl rfl rfl (og rfl rfl rfl (og rfl rfl rfl (og rfl rfl rfl (og rfl rfl rfl ?_)))))
      refine ol rfl (lo_pick_f (v := .bool _) rfl rfl rfl) (omb rfl rfl (og rfl rfl rfl (og rfl rfl rfl (og rfl rfl rfl (og rfl rfl rfl ?_)))))
      refine og rfl rfl rfl (ol rfl (lo_pick_f (v := .bool _) rfl rfl rfl) (omb rfl rfl (og rfl rfl rfl (og rfl rfl rfl (og rfl rfl rfl ?_)))))
      refine og rfl rfl rfl (og rfl rfl rfl (ol rfl (lo_pick_f (v := .bool _) rfl rfl rfl) (oab rfl rfl (ow_nil (seqK_n ?_)))))
      refine cw_ret (fnK_r (res1 rfl (rv_t (v := .bool _) rfl)) (.refl _) ?_)
      first | (simp [Mail.eq_iff, *]; done)
    have p17 := df h5
    refine og rfl h5 rfl (og rfl h5 rfl (og rfl h5 rfl (og rfl h5 rfl (og rfl h5 rfl (ol rfl (lo_pick_f (v := .bool _) rfl h5 rfl) ?_)))))
    refine omb rfl rfl (og rfl rfl rfl (og rfl rfl rfl (og rfl rfl rfl (og rfl rfl rfl (og rfl rfl rfl ?_)))))
    refine ol rfl (lo_pick_f (v := .bool _) rfl rfl rfl) (omb rfl rfl (og rfl rfl rfl (og rfl rfl rfl (og rfl rfl rfl (og rfl rfl rfl ?_)))))
    refine og rfl rfl rfl (ol rfl (lo_pick_f (v := .bool _) rfl rfl rfl) (omb rfl rfl (og rfl rfl rfl (og rfl rfl rfl (og rfl rfl rfl ?_)))))
    refine og rfl rfl rfl (og rfl rfl rfl (ol rfl (lo_pick_f (v := .bool _) rfl rfl rfl) (omb rfl rfl (og rfl rfl rfl (og rfl rfl rfl ?_)))))
    refine og rfl rfl rfl (og rfl rfl rfl (og rfl rfl rfl (ol rfl (lo_pick_f (v := .bool _) rfl rfl rfl) (oab rfl rfl (ow_nil ?_)))))
    refine seqK_n (cw_ret (fnK_r (res1 rfl (rv_t (v := .bool _) rfl)) (.refl _) ?_))
    first | (simp [Mail.eq_iff, *]; done)
  have p18 := df h3
  refine og rfl h3 rfl (og rfl h3 rfl (og rfl h3 rfl (og rfl h3 rfl (og rfl h3 rfl (ol rfl (lo_pick_f (v := .bool _) rfl h3 rfl) ?_)))))
  refine omb rfl rfl (og rfl rfl rfl (og rfl rfl rfl (og rfl rfl rfl (og rfl rfl rfl (og rfl rfl rfl ?_)))))
  refine ol rfl (lo_pick_f (v := .bool _) rfl rfl rfl) (omb rfl rfl (og rfl rfl rfl (og rfl rfl rfl (og rfl rfl rfl (og rfl rfl rfl ?_)))))
  refine og rfl rfl rfl (ol rfl (lo_pick_f (v := .bool _) rfl rfl rfl) (omb rfl rfl (og rfl rfl rfl (og rfl rfl rfl (og rfl rfl rfl ?_)))))
  refine og rfl rfl rfl (og rfl rfl rfl (ol rfl (lo_pick_f (v := .bool _) rfl rfl rfl) (omb rfl rfl (og rfl rfl rfl (og rfl rfl rfl ?_)))))
  refine og rfl rfl rfl (og rfl rfl rfl (og rfl rfl rfl (ol rfl (lo_pick_f (v := .bool _) rfl rfl rfl) (omb rfl rfl (og rfl rfl rfl ?_)))))
  refine og rfl rfl rfl (og rfl rfl rfl (og rfl rfl rfl (og rfl rfl rfl (ol rfl (lo_pick_f (v := .bool _) rfl rfl rfl) (oab rfl rfl ?_)))))
  refine ow_nil (seqK_n (cw_ret (fnK_r (res1 rfl (rv_t (v := .bool _) rfl)) (.refl _) ?_)))
  first | (simp [Mail.eq_iff, *]; done)
theorem deed_Same (H : Hp) (a : DeedR) (a_bind_want_a : Option Addr) (a_bind_want_c : Nat) (a_bind_want_h : SlH pairE 4 H (.slice a_bind_want_a a.bind.want.length a_bind_want_c) a.bind.want) (a_mail_head_a : Option Addr) (a_mail_head_c : Nat) (a_mail_head_h : SlH pairE 4 H (.slice a_mail_head_a a.mail.head.length a_mail_head_c) a.mail.head) (a_w : DeedR.wf a) (b : DeedR) (b_bind_want_a : Option Addr) (b_bind_want_c : Nat) (b_bind_want_h : SlH pairE 4 H (.slice b_bind_want_a b.bind.want.length b_bind_want_c) b.bind.want) (b_mail_head_a : Option Addr) (b_mail_head_c : Nat) (b_mail_head_h : SlH pairE 4 H (.slice b_mail_head_a b.mail.head.length b_mail_head_c) b.mail.head) (b_w : DeedR.wf b) : Pr Tryz.prog 36 #[.agg (DeedR.cells a a_bind_want_a a_bind_want_c a_mail_head_a a_mail_head_c).toArray, .agg (DeedR.cells b b_bind_want_a b_bind_want_c b_mail_head_a b_mail_head_c).toArray] H (.bool (decide (a = b))) := by
  refine pr_cw Tryz.func36 rfl Tryz.ntmps36 rfl (fun N => ?_)
  have a_w' := a_w
  simp only [DeedR.wf, ShopR.wf, QueueR.wf, BindR.wf, Mail.wf] at a_w'
  have b_w' := b_w
  simp only [DeedR.wf, ShopR.wf, QueueR.wf, BindR.wf, Mail.wf] at b_w'
  refine cw_seq (cw_region (ow1 (op1_box (cs := [_, _, _, _, _, _, _, _, _, _, _, _, _, _, _, _, _, _, _, _, _, _, _, _, _, _, _, _, _]) 0 rfl rfl (fun b1 => ?_))))
  refine ow1 (op1_box (cs := [_, _, _, _, _, _, _, _, _, _, _, _, _, _, _, _, _, _, _, _, _, _, _, _, _, _, _, _, _]) 1 rfl rfl (fun b2 => ?_))
  refine oab rfl rfl (ow_nil (seqK_n (cw_seq (cw_region (ol rfl (lo_fieldAddr rfl fl60_0) ?_)))))
  refine ol rfl (lo_load1 (i := 0) (v := .int _ _) rfl ag5 rfl rfl) (ol rfl (lo_fieldAddr rfl fl60_0) (ol rfl (lo_load1 (i := 1) (v := .int _ _) rfl ag5 rfl rfl) (ol rfl (lo_eql rfl rfl) (omb rfl rfl (ow_sp (j := 5) rfl (fun h3 => ?_) (fun h3 => ?_))))))
  · have p4 := dt h3
    refine ow1 (op1_g rfl h3 rfl (lo_fieldAddr rfl fl60_1) ?_)
    refine ow1 (op1_g rfl h3 rfl (lo_load1 (i := 0) (v := .int _ _) rfl ag25 rfl rfl) ?_)
    refine ow1 (op1_g rfl h3 rfl (lo_fieldAddr rfl fl60_1) ?_)
    refine ow1 (op1_g rfl h3 rfl (lo_load1 (i := 1) (v := .int _ _) rfl ag25 rfl rfl) ?_)
    refine ow1 (op1_g rfl h3 rfl (lo_eql rfl rfl) ?_)
    refine ol rfl (lo_pick_t (v := .bool _) rfl h3 rfl) (omb rfl rfl (ow_sp (j := 12) rfl (fun h5 => ?_) (fun h5 => ?_)))
    · have p6 := dt h5
      refine ow1 (op1_g rfl h5 rfl (lo_fieldAddr rfl fl60_2) ?_)
      refine ow1 (op1_g rfl h5 rfl (lo_loadA (i := 0) (vs := [_, _, _]) rfl ag54 sz54 rfl rfl rfl) ?_)
      refine ow1 (op1_g rfl h5 rfl (lo_fieldAddr rfl fl60_2) ?_)
      refine ow1 (op1_g rfl h5 rfl (lo_loadA (i := 1) (vs := [_, _, _]) rfl ag54 sz54 rfl rfl rfl) ?_)
      refine ow1 (op1_g rfl h5 rfl (lo_aeql (u := (ShopR.cells a.shop).toArray) (v := (ShopR.cells b.shop).toArray) rfl rfl eqg54 (eqr54 _ _ 9998)) ?_)
      refine ol rfl (lo_pick_t (v := .bool _) rfl h5 rfl) (omb rfl rfl (ow_sp (j := 19) rfl (fun h7 => ?_) (fun h7 => ?_)))
      · have p8 := dt h7
        refine ow1 (op1_g rfl h7 rfl (lo_fieldAddr rfl fl60_3) ?_)
        refine ow1 (op1_g rfl h7 rfl (lo_loadA (i := 0) (vs := [_, _, _, _]) rfl ag56 sz56 rfl rfl rfl) ?_)
        refine ow1 (op1_g rfl h7 rfl (lo_fieldAddr rfl fl60_3) ?_)
        refine ow1 (op1_g rfl h7 rfl (lo_loadA (i := 1) (vs := [_, _, _, _]) rfl ag56 sz56 rfl rfl rfl) ?_)
        refine ow1 (op1_g rfl h7 rfl (lo_aeql (u := (QueueR.cells a.queue).toArray) (v := (QueueR.cells b.queue).toArray) rfl rfl eqg56 (eqr56 _ _ 9998)) ?_)
        refine ol rfl (lo_pick_t (v := .bool _) rfl h7 rfl) (omb rfl rfl (ow_sp (j := 26) rfl (fun h9 => ?_) (fun h9 => ?_)))
        · have p10 := dt h9
          refine ow1 (op1_g rfl h9 rfl (lo_fieldAddr rfl fl60_4) ?_)
          refine ow1 (op1_g rfl h9 rfl (lo_loadA (i := 0) (vs := [_, _, _, _, _, _]) rfl ag58 sz58 rfl rfl rfl) ?_)
          refine ow1 (op1_g rfl h9 rfl (lo_fieldAddr rfl fl60_4) ?_)
          refine ow1 (op1_g rfl h9 rfl (lo_loadA (i := 1) (vs := [_, _, _, _, _, _]) rfl ag58 sz58 rfl rfl rfl) ?_)
          refine ow1 (op1_prg rfl h9 (deed_sameBind _ a.bind a_bind_want_a a_bind_want_c a_bind_want_h (by simp only [BindR.wf]; first | omega | (simp; done) | (simp; omega)) b.bind b_bind_want_a b_bind_want_c b_bind_want_h (by simp only [BindR.wf]; first | omega | (simp; done) | (simp; omega))) (en_f cb126 rfl) rfl ?_)
          refine ol rfl (lo_pick_t (v := .bool _) rfl h9 rfl) (omb rfl rfl (ow_sp (j := 33) rfl (fun h11 => ?_) (fun h11 => ?_)))
          · refine ow1 (op1_g rfl h11 rfl (lo_fieldAddr rfl fl60_5) ?_)
            refine ow1 (op1_g rfl h11 rfl (lo_load1 (i := 0) (v := str _) rfl ag9 rfl rfl) ?_)
            refine ow1 (op1_g rfl h11 rfl (lo_fieldAddr rfl fl60_5) ?_)
            refine ow1 (op1_g rfl h11 rfl (lo_load1 (i := 1) (v := str _) rfl ag9 rfl rfl) ?_)
            refine ow1 (op1_g rfl h11 rfl (lo_seql rfl rfl) ?_)
            refine ol rfl (lo_pick_t (v := .bool _) rfl h11 rfl) (omb rfl rfl (ow_sp (j := 40) rfl (fun h12 => ?_) (fun h12 => ?_)))
            · have p13 := dt h12
              refine ow1 (op1_g rfl h12 rfl (lo_fieldAddr rfl fl60_6) ?_)
              refine ow1 (op1_g rfl h12 rfl (lo_load1 (i := 0) (v := .int _ _) rfl ag25 rfl rfl) ?_)
              refine ow1 (op1_g rfl h12 rfl (lo_fieldAddr rfl fl60_6) ?_)
              refine ow1 (op1_g rfl h12 rfl (lo_load1 (i := 1) (v := .int _ _) rfl ag25 rfl rfl) ?_)
              refine ow1 (op1_g rfl h12 rfl (lo_eql rfl rfl) ?_)
              refine ol rfl (lo_pick_t (v := .bool _) rfl h12 rfl) (omb rfl rfl (ow_sp (j := 47) rfl (fun h14 => ?_) (fun h14 => ?_)))
              · have p15 := dt h14
                refine ow1 (op1_g rfl h14 rfl (lo_fieldAddr rfl fl60_7) ?_)
                refine ow1 (op1_g rfl h14 rfl (lo_load1 (i := 0) (v := .int _ _) rfl ag5 rfl rfl) ?_)
                refine ow1 (op1_g rfl h14 rfl (lo_fieldAddr rfl fl60_7) ?_)
                refine ow1 (op1_g rfl h14 rfl (lo_load1 (i := 1) (v := .int _ _) rfl ag5 rfl rfl) ?_)
                refine ow1 (op1_g rfl h14 rfl (lo_eql rfl rfl) ?_)
                refine ol rfl (lo_pick_t (v := .bool _) rfl h14 rfl) (omb rfl rfl (ow_sp (j := 54) rfl (fun h16 => ?_) (fun h16 => ?_)))
                · have p17 := dt h16
                  refine ow1 (op1_g rfl h16 rfl (lo_fieldAddr rfl fl60_8) ?_)
                  refine ow1 (op1_g rfl h16 rfl (lo_load1 (i := 0) (v := .int _ _) rfl ag5 rfl rfl) ?_)
                  refine ow1 (op1_g rfl h16 rfl (lo_fieldAddr rfl fl60_8) ?_)
                  refine ow1 (op1_g rfl h16 rfl (lo_load1 (i := 1) (v := .int _ _) rfl ag5 rfl rfl) ?_)
                  refine ow1 (op1_g rfl h16 rfl (lo_eql rfl rfl) ?_)
                  refine ol rfl (lo_pick_t (v := .bool _) rfl h16 rfl) (omb rfl rfl (ow_sp (j := 61) rfl (fun h18 => ?_) (fun h18 => ?_)))
                  · have p19 := dt h18
                    refine ow1 (op1_g rfl h18 rfl (lo_fieldAddr rfl fl60_9) ?_)
                    refine ow1 (op1_g rfl h18 rfl (lo_load1 (i := 0) (v := .int _ _) rfl ag5 rfl rfl) ?_)
                    refine ow1 (op1_g rfl h18 rfl (lo_fieldAddr rfl fl60_9) ?_)
                    refine ow1 (op1_g rfl h18 rfl (lo_load1 (i := 1) (v := .int _ _) rfl ag5 rfl rfl) ?_)
                    refine ow1 (op1_g rfl h18 rfl (lo_eql rfl rfl) ?_)
                    refine ol rfl (lo_pick_t (v := .bool _) rfl h18 rfl) (omb rfl rfl (ow_sp (j := 68) rfl (fun h20 => ?_) (fun h20 => ?_)))
                    · have p21 := dt h20
                      refine ow1 (op1_g rfl h20 rfl (lo_fieldAddr rfl fl60_10) ?_)
                      refine ow1 (op1_g rfl h20 rfl (lo_load1 (i := 0) (v := .int _ _) rfl ag25 rfl rfl) ?_)
                      refine ow1 (op1_g rfl h20 rfl (lo_fieldAddr rfl fl60_10) ?_)
                      refine ow1 (op1_g rfl h20 rfl (lo_load1 (i := 1) (v := .int _ _) rfl ag25 rfl rfl) ?_)
                      refine ow1 (op1_g rfl h20 rfl (lo_eql rfl rfl) ?_)
                      refine ol rfl (lo_pick_t (v := .bool _) rfl h20 rfl) (omb rfl rfl (ow_sp (j := 75) rfl (fun h22 => ?_) (fun h22 => ?_)))
                      · have p23 := dt h22
                        refine ow1 (op1_g rfl h22 rfl (lo_fieldAddr rfl fl60_11) ?_)
                        refine ow1 (op1_g rfl h22 rfl (lo_loadA (i := 0) (vs := [_, _, _, _, _, _, _]) rfl ag28 sz28 rfl rfl rfl) ?_)
                        refine ow1 (op1_g rfl h22 rfl (lo_fieldAddr rfl fl60_11) ?_)
                        refine ow1 (op1_g rfl h22 rfl (lo_loadA (i := 1) (vs := [_, _, _, _, _, _, _]) rfl ag28 sz28 rfl rfl rfl) ?_)
                        refine ow1 (op1_prg rfl h22 (mail_Same _ a.mail a_mail_head_a a_mail_head_c a_mail_head_h (by simp only [Mail.wf]; first | omega | (simp; done) | (simp; omega)) b.mail b_mail_head_a b_mail_head_c b_mail_head_h (by simp only [Mail.wf]; first | omega | (simp; done) | (simp; omega))) (en_f cb127 rfl) rfl ?_)
                        refine ol rfl (lo_pick_t (v := .bool _) rfl h22 rfl) (omb rfl rfl (ow_sp (j := 82) rfl (fun h24 => ?_) (fun h24 => ?_)))
                        · refine ow1 (op1_g rfl h24 rfl (lo_fieldAddr rfl fl60_12) ?_)
                          refine ow1 (op1_g rfl h24 rfl (lo_load1 (i := 0) (v := str _) rfl ag9 rfl rfl) ?_)
                          refine ow1 (op1_g rfl h24 rfl (lo_fieldAddr rfl fl60_12) ?_)
                          refine ow1 (op1_g rfl h24 rfl (lo_load1 (i := 1) (v := str _) rfl ag9 rfl rfl) ?_)
                          refine ow1 (op1_g rfl h24 rfl (lo_seql rfl rfl) ?_)
                          refine ol rfl (lo_pick_t (v := .bool _) rfl h24 rfl) (oab rfl rfl (ow_nil (seqK_n (cw_ret (fnK_r (res1 rfl (rv_t (v := .bool _) rfl)) (.refl _) ?_)))))
                          first | (simp [DeedR.eq_iff, *]; done)
                        refine og rfl h24 rfl (og rfl h24 rfl (og rfl h24 rfl (og rfl h24 rfl (og rfl h24 rfl (ol rfl (lo_pick_f (v := .bool _) rfl h24 rfl) ?_)))))
                        refine oab rfl rfl (ow_nil (seqK_n (cw_ret (fnK_r (res1 rfl (rv_t (v := .bool _) rfl)) (.refl _) ?_))))
                        first | (simp [DeedR.eq_iff, *]; done)
                      have p25 := df h22
                      refine og rfl h22 rfl (og rfl h22 rfl (og rfl h22 rfl (og rfl h22 rfl (og rfl h22 rfl (ol rfl (lo_pick_f (v := .bool _) rfl h22 rfl) ?_)))))
                      refine omb rfl rfl (og rfl rfl rfl (og rfl rfl rfl (og rfl rfl rfl (og rfl rfl rfl (og rfl rfl rfl ?_)))))
                      refine ol rfl (lo_pick_f (v := .bool _) rfl rfl rfl) (oab rfl rfl (ow_nil (seqK_n (cw_ret (fnK_r (res1 rfl (rv_t (v := .bool _) rfl)) (.refl _) ?_)))))
                      first | (simp [DeedR.eq_iff, *]; done)
                    have p26 := df h20
                    refine og rfl h20 rfl (og rfl h20 rfl (og rfl h20 rfl (og rfl h20 rfl (og rfl h20 rfl (ol rfl (lo_pick_f (v := .bool _) rfl h20 rfl) ?_)))))
                    refine omb rfl rfl (og rfl rfl rfl (og rfl rfl rfl (og rfl rfl rfl (og rfl rfl rfl (og rfl rfl rfl ?_)))))
                    refine ol rfl (lo_pick_f (v := .bool _) rfl rfl rfl) (omb rfl rfl (og rfl rfl rfl (og rfl rfl rfl (og rfl rfl rfl (og rfl rfl rfl ?_)))))
                    refine og rfl rfl rfl (ol rfl (lo_pick_f (v := .bool _) rfl rfl rfl) (oab rfl rfl (ow_nil (seqK_n (cw_ret ?_)))))
                    refine fnK_r (res1 rfl (rv_t (v := .bool _) rfl)) (.refl _) ?_
                    first | (simp [DeedR.eq_iff, *]; done)
                  have p27 := df h18
                  refine og rfl h18 rfl (og rfl h18 rfl (og rfl h18 rfl (og rfl h18 rfl (og rfl h18 rfl (ol rfl (lo_pick_f (v := .bool _) rfl h18 rfl) ?_)))))
                  refine omb rfl rfl (og rfl rfl rfl (og rfl rfl rfl (og rfl rfl rfl (og rfl rfl rfl (og rfl rfl rfl ?_)))))
                  refine ol rfl (lo_pick_f (v := .bool _) rfl rfl rfl) (omb rfl rfl (og rfl rfl rfl (og rfl rfl rfl (og rfl rfl rfl (og rfl rfl rfl ?_)))))
                  refine og rfl rfl rfl (ol rfl (lo_pick_f (v := .bool _) rfl rfl rfl) (omb rfl rfl (og rfl rfl rfl (og rfl rfl rfl (og rfl rfl rfl ?_)))))
                  refine og rfl rfl rfl (og rfl rfl rfl (ol rfl (lo_pick_f (v := .bool _) rfl rfl rfl) (oab rfl rfl (ow_nil (seqK_n ?_)))))
                  refine cw_ret (fnK_r (res1 rfl (rv_t (v := .bool _) rfl)) (.refl _) ?_)
                  first | (simp [DeedR.eq_iff, *]; done)
                have p28 := df h16
                refine og rfl h16 rfl (og rfl h16 rfl (og rfl h16 rfl (og rfl h16 rfl (og rfl h16 rfl (ol rfl (lo_pick_f (v := .bool _) rfl h16 rfl) ?_)))))
                refine omb rfl rfl (og rfl rfl rfl (og rfl rfl rfl (og rfl rfl rfl (og rfl rfl rfl (og rfl rfl rfl ?_)))))
                refine ol rfl (lo_pick_f (v := .bool _) rfl rfl rfl) (omb rfl rfl (og rfl rfl rfl (og rfl rfl rfl (og rfl rfl rfl (og rfl rfl rfl ?_)))))
                refine og rfl rfl rfl (ol rfl (lo_pick_f (v := .bool _) rfl rfl rfl) (omb rfl rfl (og rfl rfl rfl (og rfl rfl rfl (og rfl rfl rfl ?_)))))
                refine og rfl rfl rfl (og rfl rfl rfl (ol rfl (lo_pick_f (v := .bool _) rfl rfl rfl) (omb rfl rfl (og rfl rfl rfl (og rfl rfl rfl ?_)))))
                refine og rfl rfl rfl (og rfl rfl rfl (og rfl rfl rfl (ol rfl (lo_pick_f (v := .bool _) rfl rfl rfl) (oab rfl rfl (ow_nil ?_)))))
                refine seqK_n (cw_ret (fnK_r (res1 rfl (rv_t (v := .bool _) rfl)) (.refl _) ?_))
                first | (simp [DeedR.eq_iff, *]; done)
              have p29 := df h14
              refine og rfl h14 rfl (og rfl h14 rfl (og rfl h14 rfl (og rfl h14 rfl (og rfl h14 rfl (ol rfl (lo_pick_f (v := .bool _) rfl h14 rfl) ?_)))))
              refine omb rfl rfl (og rfl rfl rfl (og rfl rfl rfl (og rfl rfl rfl (og rfl rfl rfl (og rfl rfl rfl ?_)))))
              refine ol rfl (lo_pick_f (v := .bool _) rfl rfl rfl) (omb rfl rfl (og rfl rfl rfl (og rfl rfl rfl (og rfl rfl rfl (og rfl rfl rfl ?_)))))
              refine og rfl rfl rfl (ol rfl (lo_pick_f (v := .bool _) rfl rfl rfl) (omb rfl rfl (og rfl rfl rfl (og rfl rfl rfl (og rfl rfl rfl ?_)))))
              refine og rfl rfl rfl (og rfl rfl rfl (ol rfl (lo_pick_f (v := .bool _) rfl rfl rfl) (omb rfl rfl (og rfl rfl rfl (og rfl rfl rfl ?_)))))
              refine og rfl rfl rfl (og rfl rfl rfl (og rfl rfl rfl (ol rfl (lo_pick_f (v := .bool _) rfl rfl rfl) (omb rfl rfl (og rfl rfl rfl ?_)))))
              refine og rfl rfl rfl (og rfl rfl rfl (og rfl rfl rfl (og rfl rfl rfl (ol rfl (lo_pick_f (v := .bool _) rfl rfl rfl) (oab rfl rfl ?_)))))
              refine ow_nil (seqK_n (cw_ret (fnK_r (res1 rfl (rv_t (v := .bool _) rfl)) (.refl _) ?_)))
              first | (simp [DeedR.eq_iff, *]; done)
            have p30 := df h12
            refine og rfl h12 rfl (og rfl h12 rfl (og rfl h12 rfl (og rfl h12 rfl (og rfl h12 rfl (ol rfl (lo_pick_f (v := .bool _) rfl h12 rfl) ?_)))))
            refine omb rfl rfl (og rfl rfl rfl (og rfl rfl rfl (og rfl rfl rfl (og rfl rfl rfl (og rfl rfl rfl ?_)))))
            refine ol rfl (lo_pick_f (v := .bool _) rfl rfl rfl) (omb rfl rfl (og rfl rfl rfl (og rfl rfl rfl (og rfl rfl rfl (og rfl rfl rfl ?_)))))
            refine og rfl rfl rfl (ol rfl (lo_pick_f (v := .bool _) rfl rfl rfl) (omb rfl rfl (og rfl rfl rfl (og rfl rfl rfl (og rfl rfl rfl ?_)))))
            refine og rfl rfl rfl (og rfl rfl rfl (ol rfl (lo_pick_f (v := .bool _) rfl rfl rfl) (omb rfl rfl (og rfl rfl rfl (og rfl rfl rfl ?_)))))
            refine og rfl rfl rfl (og rfl rfl rfl (og rfl rfl rfl (ol rfl (lo_pick_f (v := .bool _) rfl rfl rfl) (omb rfl rfl (og rfl rfl rfl ?_)))))
            refine og rfl rfl rfl (og rfl rfl rfl (og rfl rfl rfl (og rfl rfl rfl (ol rfl (lo_pick_f (v := .bool _) rfl rfl rfl) (omb rfl rfl ?_)))))
            refine og rfl rfl rfl (og rfl rfl rfl (og rfl rfl rfl (og rfl rfl rfl (og rfl rfl rfl (ol rfl (lo_pick_f (v := .bool _) rfl rfl rfl) ?_)))))
            refine oab rfl rfl (ow_nil (seqK_n (cw_ret (fnK_r (res1 rfl (rv_t (v := .bool _) rfl)) (.refl _) ?_))))
            first | (simp [DeedR.eq_iff, *]; done)
          refine og rfl h11 rfl (og rfl h11 rfl (og rfl h11 rfl (og rfl h11 rfl (og rfl h11 rfl (ol rfl (lo_pick_f (v := .bool _) rfl h11 rfl) ?_)))))
          refine omb rfl rfl (og rfl rfl rfl (og rfl rfl rfl (og rfl rfl rfl (og rfl rfl rfl (og rfl rfl rfl ?_)))))
          refine ol rfl (lo_pick_f (v := .bool _) rfl rfl rfl) (omb rfl rfl (og rfl rfl rfl (og rfl rfl rfl (og rfl rfl rfl (og rfl rfl rfl ?_)))))
          refine og rfl rfl rfl (ol rfl (lo_pick_f (v := .bool _) rfl rfl rfl) (omb rfl rfl (og rfl rfl rfl (og rfl rfl rfl (og rfl rfl rfl ?_)))))
          refine og rfl rfl rfl (og rfl rfl rfl (ol rfl (lo_pick_f (v := .bool _) rfl rfl rfl) (omb rfl rfl (og rfl rfl rfl (og rfl rfl rfl ?_)))))
          refine og rfl rfl rfl (og rfl rfl rfl (og rfl rfl rfl (ol rfl (lo_pick_f (v := .bool _) rfl rfl rfl) (omb rfl rfl (og rfl rfl rfl ?_)))))
          refine og rfl rfl rfl (og rfl rfl rfl (og rfl rfl rfl (og rfl rfl rfl (ol rfl (lo_pick_f (v := .bool _) rfl rfl rfl) (omb rfl rfl ?_)))))
          refine og rfl rfl rfl (og rfl rfl rfl (og rfl rfl rfl (og rfl rfl rfl (og rfl rfl rfl (ol rfl (lo_pick_f (v := .bool _) rfl rfl rfl) ?_)))))
          refine omb rfl rfl (og rfl rfl rfl (og rfl rfl rfl (og rfl rfl rfl (og rfl rfl rfl (og rfl rfl rfl ?_)))))
          refine ol rfl (lo_pick_f (v := .bool _) rfl rfl rfl) (oab rfl rfl (ow_nil (seqK_n (cw_ret (fnK_r (res1 rfl (rv_t (v := .bool _) rfl)) (.refl _) ?_)))))
          first | (simp [DeedR.eq_iff, *]; done)
        have p31 := df h9
        refine og rfl h9 rfl (og rfl h9 rfl (og rfl h9 rfl (og rfl h9 rfl (og rfl h9 rfl (ol rfl (lo_pick_f (v := .bool _) rfl h9 rfl) ?_)))))
        refine omb rfl rfl (og rfl rfl rfl (og rfl rfl rfl (og rfl rfl rfl (og rfl rfl rfl (og rfl rfl rfl ?_)))))
        refine ol rfl (lo_pick_f (v := .bool _) rfl rfl rfl) (omb rfl rfl (og rfl rfl rfl (og rfl rfl rfl (og rfl rfl rfl (og rfl rfl rfl ?_)))))
        refine og rfl rfl rfl (ol rfl (lo_pick_f (v := .bool _) rfl rfl rfl) (omb rfl rfl (og rfl rfl rfl (og rfl rfl rfl (og rfl rfl rfl ?_)))))
        refine og rfl rfl rfl (og rfl rfl rfl (ol rfl (lo_pick_f (v := .bool _) rfl rfl rfl) (omb rfl rfl (og rfl rfl rfl (og rfl rfl rfl ?_)))))
        refine og rfl rfl rfl (og rfl rfl rfl (og rfl rfl rfl (ol rfl (lo_pick_f (v := .bool _) rfl rfl rfl) (omb rfl rfl (og rfl rfl rfl ?_)))))
        refine og rfl rfl rfl (og rfl rfl rfl (og rfl rfl rfl (og rfl rfl rfl (ol rfl (lo_pick_f (v := .bool _) rfl rfl rfl) (omb rfl rfl ?_)))))
        refine og rfl rfl rfl (og rfl rfl rfl (og rfl rfl rfl (og rfl rfl rfl (og rfl rfl rfl (ol rfl (lo_pick_f (v := .bool _) rfl rfl rfl) ?_)))))
        refine omb rfl rfl (og rfl rfl rfl (og rfl rfl rfl (og rfl rfl rfl (og rfl rfl rfl (og rfl rfl rfl ?_)))))
        refine ol rfl (lo_pick_f (v := .bool _) rfl rfl rfl) (omb rfl rfl (og rfl rfl rfl (og rfl rfl rfl (og rfl rfl rfl (og rfl rfl rfl ?_)))))
        refine og rfl rfl rfl (ol rfl (lo_pick_f (v := .bool _) rfl rfl rfl) (oab rfl rfl (ow_nil (seqK_n (cw_ret ?_)))))
        refine fnK_r (res1 rfl (rv_t (v := .bool _) rfl)) (.refl _) ?_
        first | (simp [DeedR.eq_iff, *]; done)
      have p32 := df h7
      refine og rfl h7 rfl (og rfl h7 rfl (og rfl h7 rfl (og rfl h7 rfl (og rfl h7 rfl (ol rfl (lo_pick_f (v := .bool _) rfl h7 rfl) ?_)))))
      refine omb rfl rfl (og rfl rfl rfl (og rfl rfl rfl (og rfl rfl rfl (og rfl rfl rfl (og rfl rfl rfl ?_)))))
      refine ol rfl (lo_pick_f (v := .bool _) rfl rfl rfl) (omb rfl rfl (og rfl rfl rfl (og rfl rfl rfl (og rfl rfl rfl (og rfl rfl rfl ?_)))))
      refine og rfl rfl rfl (ol rfl (lo_pick_f (v := .bool _) rfl rfl rfl) (omb rfl rfl (og rfl rfl rfl (og rfl rfl rfl (og rfl rfl rfl ?_)))))
      refine og rfl rfl rfl (og rfl rfl rfl (ol rfl (lo_pick_f (v := .bool _) rfl rfl rfl) (omb rfl rfl (og rfl rfl rfl (og rfl rfl rfl ?_)))))
      refine og rfl rfl rfl (og rfl rfl rfl (og rfl rfl rfl (ol rfl (lo_pick_f (v := .bool _) rfl rfl rfl) (omb rfl rfl (og rfl rfl rfl ?_)))))
      refine og rfl rfl rfl (og rfl rfl rfl (og rfl rfl rfl (og rfl rfl rfl (ol rfl (lo_pick_f (v := .bool _) rfl rfl rfl) (omb rfl rfl ?_)))))
      refine og rfl rfl rfl (og rfl rfl rfl (og rfl rfl rfl (og rfl rfl rfl (og rfl rfl rfl (ol rfl (lo_pick_f (v := .bool _) rfl rfl rfl) ?_)))))
      refine omb rfl rfl (og rfl rfl rfl (og rfl rfl rfl (og rfl rfl rfl (og rfl rfl rfl (og rfl rfl rfl ?_)))))
      refine ol rfl (lo_pick_f (v := .bool _) rfl rfl rfl) (omb rfl rfl (og rfl rfl rfl (og rfl rfl rfl (og rfl rfl rfl (og rfl rfl rfl ?_)))))
      refine og rfl rfl rfl (ol rfl (lo_pick_f (v := .bool _) rfl rfl rfl) (omb rfl rfl (og rfl rfl rfl (og rfl rfl rfl (og rfl rfl rfl ?_)))))
      refine og rfl rfl rfl (og rfl rfl rfl (ol rfl (lo_pick_f (v := .bool _) rfl rfl rfl) (oab rfl rfl (ow_nil (seqK_n ?_)))))
      refine cw_ret (fnK_r (res1 rfl (rv_t (v := .bool _) rfl)) (.refl _) ?_)
      first | (simp [DeedR.eq_iff, *]; done)
    have p33 := df h5
    refine og rfl h5 rfl (og rfl h5 rfl (og rfl h5 rfl (og rfl h5 rfl (og rfl h5 rfl (ol rfl (lo_pick_f (v := .bool _) rfl h5 rfl) ?_)))))
    refine omb rfl rfl (og rfl rfl rfl (og rfl rfl rfl (og rfl rfl rfl (og rfl rfl rfl (og rfl rfl rfl ?_)))))
    refine ol rfl (lo_pick_f (v := .bool _) rfl rfl rfl) (omb rfl rfl (og rfl rfl rfl (og rfl rfl rfl (og rfl rfl rfl (og rfl rfl rfl ?_)))))
    refine og rfl rfl rfl (ol rfl (lo_pick_f (v := .bool _) rfl rfl rfl) (omb rfl rfl (og rfl rfl rfl (og rfl rfl rfl (og rfl rfl rfl ?_)))))
    refine og rfl rfl rfl (og rfl rfl rfl (ol rfl (lo_pick_f (v := .bool _) rfl rfl rfl) (omb rfl rfl (og rfl rfl rfl (og rfl rfl rfl ?_)))))
    refine og rfl rfl rfl (og rfl rfl rfl (og rfl rfl rfl (ol rfl (lo_pick_f (v := .bool _) rfl rfl rfl) (omb rfl rfl (og rfl rfl rfl ?_)))))
    refine og rfl rfl rfl (og rfl rfl rfl (og rfl rfl rfl (og rfl rfl rfl (ol rfl (lo_pick_f (v := .bool _) rfl rfl rfl) (omb rfl rfl ?_)))))
    refine og rfl rfl rfl (og rfl rfl rfl (og rfl rfl rfl (og rfl rfl rfl (og rfl rfl rfl (ol rfl (lo_pick_f (v := .bool _) rfl rfl rfl) ?_)))))
    refine omb rfl rfl (og rfl rfl rfl (og rfl rfl rfl (og rfl rfl rfl (og rfl rfl rfl (og rfl rfl rfl ?_)))))
    refine ol rfl (lo_pick_f (v := .bool _) rfl rfl rfl) (omb rfl rfl (og rfl rfl rfl (og rfl rfl rfl (og rfl rfl rfl (og rfl rfl rfl ?_)))))
    refine og rfl rfl rfl (ol rfl (lo_pick_f (v := .bool _) rfl rfl rfl) (omb rfl rfl (og rfl rfl rfl (og rfl rfl rfl (og rfl rfl rfl ?_)))))
    refine og rfl rfl rfl (og rfl rfl rfl (ol rfl (lo_pick_f (v := .bool _) rfl rfl rfl) (omb rfl rfl (og rfl rfl rfl (og rfl rfl rfl ?_)))))
    refine og rfl rfl rfl (og rfl rfl rfl (og rfl rfl rfl (ol rfl (lo_pick_f (v := .bool _) rfl rfl rfl) (oab rfl rfl (ow_nil ?_)))))
    refine seqK_n (cw_ret (fnK_r (res1 rfl (rv_t (v := .bool _) rfl)) (.refl _) ?_))
    first | (simp [DeedR.eq_iff, *]; done)
  have p34 := df h3
  refine og rfl h3 rfl (og rfl h3 rfl (og rfl h3 rfl (og rfl h3 rfl (og rfl h3 rfl (ol rfl (lo_pick_f (v := .bool _) rfl h3 rfl) ?_)))))
  refine omb rfl rfl (og rfl rfl rfl (og rfl rfl rfl (og rfl rfl rfl (og rfl rfl rfl (og rfl rfl rfl ?_)))))
  refine ol rfl (lo_pick_f (v := .bool _) rfl rfl rfl) (omb rfl rfl (og rfl rfl rfl (og rfl rfl rfl (og rfl rfl rfl (og rfl rfl rfl ?_)))))
  refine og rfl rfl rfl (ol rfl (lo_pick_f (v := .bool _) rfl rfl rfl) (omb rfl rfl (og rfl rfl rfl (og rfl rfl rfl (og rfl rfl rfl ?_)))))
  refine og rfl rfl rfl (og rfl rfl rfl (ol rfl (lo_pick_f (v := .bool _) rfl rfl rfl) (omb rfl rfl (og rfl rfl rfl (og rfl rfl rfl ?_)))))
  refine og rfl rfl rfl (og rfl rfl rfl (og rfl rfl rfl (ol rfl (lo_pick_f (v := .bool _) rfl rfl rfl) (omb rfl rfl (og rfl rfl rfl ?_)))))
  refine og rfl rfl rfl (og rfl rfl rfl (og rfl rfl rfl (og rfl rfl rfl (ol rfl (lo_pick_f (v := .bool _) rfl rfl rfl) (omb rfl rfl ?_)))))
  refine og rfl rfl rfl (og rfl rfl rfl (og rfl rfl rfl (og rfl rfl rfl (og rfl rfl rfl (ol rfl (lo_pick_f (v := .bool _) rfl rfl rfl) ?_)))))
  refine omb rfl rfl (og rfl rfl rfl (og rfl rfl rfl (og rfl rfl rfl (og rfl rfl rfl (og rfl rfl rfl ?_)))))
  refine ol rfl (lo_pick_f (v := .bool _) rfl rfl rfl) (omb rfl rfl (og rfl rfl rfl (og rfl rfl rfl (og rfl rfl rfl (og rfl rfl rfl ?_)))))
  refine og rfl rfl rfl (ol rfl (lo_pick_f (v := .bool _) rfl rfl rfl) (omb rfl rfl (og rfl rfl rfl (og rfl rfl rfl (og rfl rfl rfl ?_)))))
  refine og rfl rfl rfl (og rfl rfl rfl (ol rfl (lo_pick_f (v := .bool _) rfl rfl rfl) (omb rfl rfl (og rfl rfl rfl (og rfl rfl rfl ?_)))))
  refine og rfl rfl rfl (og rfl rfl rfl (og rfl rfl rfl (ol rfl (lo_pick_f (v := .bool _) rfl rfl rfl) (omb rfl rfl (og rfl rfl rfl ?_)))))
  refine og rfl rfl rfl (og rfl rfl rfl (og rfl rfl rfl (og rfl rfl rfl (ol rfl (lo_pick_f (v := .bool _) rfl rfl rfl) (oab rfl rfl ?_)))))
  refine ow_nil (seqK_n (cw_ret (fnK_r (res1 rfl (rv_t (v := .bool _) rfl)) (.refl _) ?_)))
  first | (simp [DeedR.eq_iff, *]; done)
end Go.SW
set_option linter.unusedVariables false
set_option maxRecDepth 100000
set_option maxHeartbeats 4000000
namespace Go.SW
open Go.Proofs
theorem ag60 : Ag Tryz.prog 60 true := fun w => by kernel_rfl
theorem bd60_0u8_1u64 (a1 : Int) (a2 : Int) (w : World) : (Instr.build 60 #[(0, .int .u8 a1), (1, .int .u64 a2)]).run Tryz.prog w = .ok (.agg #[.int .u8 a1, .int .u64 a2, str [], .int .u8 0, str [], str [], .int .u64 0, .int .u64 0, str [], str [], str [], .bool false, str [], .slice none 0 0, .bool false, str [], .int .u64 0, .int .u8 0, .int .u8 0, .int .u8 0, .int .u64 0, .int .u64 0, str [], str [], .slice none 0 0, str [], .int .u64 0, .int .u8 0, str []]) w := by kernel_rfl
theorem sz60 : Sz Tryz.prog 60 29 := fun w => by kernel_rfl
theorem zr60 : Zr Tryz.prog 60 [.int .u8 0, .int .u64 0, str [], .int .u8 0, str [], str [], .int .u64 0, .int .u64 0, str [], str [], str [], .bool false, str [], .slice none 0 0, .bool false, str [], .int .u64 0, .int .u8 0, .int .u8 0, .int .u8 0, .int .u64 0, .int .u64 0, str [], str [], .slice none 0 0, str [], .int .u64 0, .int .u8 0, str []] := fun w => ⟨.agg #[.int .u8 0, .int .u64 0, str [], .int .u8 0, str [], str [], .int .u64 0, .int .u64 0, str [], str [], str [], .bool false, str [], .slice none 0 0, .bool false, str [], .int .u64 0, .int .u8 0, .int .u8 0, .int .u8 0, .int .u64 0, .int .u64 0, str [], str [], .slice none 0 0, str [], .int .u64 0, .int .u8 0, str []], by kernel_rfl, rfl⟩
theorem deed_told (H : Hp) (d : DeedR) (d_bind_want_a : Option Addr) (d_bind_want_c : Nat) (d_bind_want_h : SlH pairE 4 H (.slice d_bind_want_a d.bind.want.length d_bind_want_c) d.bind.want) (d_mail_head_a : Option Addr) (d_mail_head_c : Nat) (d_mail_head_h : SlH pairE 4 H (.slice d_mail_head_a d.mail.head.length d_mail_head_c) d.mail.head) (d_w : DeedR.wf d) : Ph Tryz.prog 114 #[.agg (DeedR.cells d d_bind_want_a d_bind_want_c d_mail_head_a d_mail_head_c).toArray] H (fun v H' => ∃ (a1 : Option Addr) (c1 : Nat) (a2 : Option Addr) (c2 : Nat), v = .agg (DeedR.cells (toldD d) a1 c1 a2 c2).toArray ∧ SlH pairE 4 H' (.slice a1 ((toldD d).bind.want).length c1) ((toldD d).bind.want) ∧ SlH pairE 4 H' (.slice a2 ((toldD d).mail.head).length c2) ((toldD d).mail.head)) := by
  refine ph_cw Tryz.func114 rfl Tryz.ntmps114 rfl (fun N => ?_)
  have d_w' := d_w
  simp only [DeedR.wf, ShopR.wf, QueueR.wf, BindR.wf, Mail.wf] at d_w'
  refine cw_seq (cw_region (ow1 (op1_box (cs := [_, _, _, _, _, _, _, _, _, _, _, _, _, _, _, _, _, _, _, _, _, _, _, _, _, _, _, _, _]) 0 rfl rfl (fun b1 => ?_))))
  refine ow1 (op1_alloc 1 rfl zr60 (fun b2 => ?_))
  refine ow_nil (seqK_n (cw_seq (cw_region (ol rfl (lo_fieldAddr rfl fl60_0) (ol rfl (lo_load1 (i := 0) (v := .int _ _) rfl ag5 rfl rfl) ?_)))))
  refine ol rfl (lo_fieldAddr rfl fl60_1) (ol rfl (lo_load1 (i := 0) (v := .int _ _) rfl ag25 rfl rfl) (ol rfl (lo_build (v := .agg #[_, _, _, _, _, _, _, _, _, _, _, _, _, _, _, _, _, _, _, _, _, _, _, _, _, _, _, _, _]) rfl (bd60_0u8_1u64 _ _)) (ow1 (op1_alloc 2 rfl zr60 (fun b3 => ?_)))))
  refine ow1 (op1_storeAll (i := 2) (vs := [_, _, _, _, _, _, _, _, _, _, _, _, _, _, _, _, _, _, _, _, _, _, _, _, _, _, _, _, _]) rfl rfl rfl sz60 rfl rfl rfl ?_)
  refine ow_nil (seqK_n (cw_seq (cw_seq (cw_region (ol rfl (lo_fieldAddr rfl fl60_0) ?_)))))
  refine ol rfl (lo_load1 (i := 0) (v := .int _ _) rfl ag5 rfl rfl) (ow_nil (seqK_n (cw_block (cw_seq (cw_region ?_)))))
  refine ol rfl (lo_eql rfl rfl) (oab rfl rfl (ow_nil (seqK_n (cw_cond rfl (fun h4 => ?_) (fun h4 => ?_)))))
  · have p5 := dt h4
    refine cw_region (ol rfl (lo_fieldAddr rfl fl60_2) (ol rfl (lo_loadA (i := 0) (vs := [_, _, _]) rfl ag54 sz54 rfl rfl rfl) (ol rfl (lo_fieldAddr rfl fl60_2) ?_)))
    refine ow1 (op1_storeAp (i := 2) (vs := [_, _, _]) [_, _, _, _, _, _, _, _, _, _, _, _, _, _, _, _, _, _, _, _, _, _, _, _, _, _, _, _, _] rfl rfl rfl sz54 rfl rfl rfl rfl ?_)
    refine ow_nil (blkK_n (seqK_n (cw_seq (cw_region (ol rfl (lo_loadA (i := 2) (vs := [_, _, _, _, _, _, _, _, _, _, _, _, _, _, _, _, _, _, _, _, _, _, _, _, _, _, _, _, _]) rfl ag60 sz60 rfl rfl rfl) ?_)))))
    refine ow1 (op1_storeAll (i := 1) (vs := [_, _, _, _, _, _, _, _, _, _, _, _, _, _, _, _, _, _, _, _, _, _, _, _, _, _, _, _, _]) rfl rfl rfl sz60 rfl rfl rfl ?_)
    refine ow_nil (seqK_n (cw_ret (fnK_r (res1 rfl (rv_c (i := 1) (vs := [_, _, _, _, _, _, _, _, _, _, _, _, _, _, _, _, _, _, _, _, _, _, _, _, _, _, _, _, _]) rfl ag60 sz60 rfl rfl rfl)) (.refl _) ?_)))
    have e : toldD d = (⟨d.kind, d.tick, d.shop, (⟨[], 0, 0, []⟩ : QueueR), (⟨[], [], false, [], [], false⟩ : BindR), [], 0, 0, 0, 0, 0, (⟨0, [], [], [], [], 0, 0⟩ : Mail), []⟩ : DeedR) := by
      unfold toldD
      repeat (first | rw [if_pos (by omega)] | rw [if_neg (by omega)])
      rfl
    rw [e]
    exact ⟨_, _, _, _, rfl, slh_nil, slh_nil⟩
  have p6 := df h4
  refine cw_seq (cw_region (ol rfl (lo_eql rfl rfl) (oab rfl rfl (ow_nil (seqK_n ?_)))))
  refine cw_cond rfl (fun h7 => ?_) (fun h7 => ?_)
  · have p8 := dt h7
    refine cw_region (ol rfl (lo_fieldAddr rfl fl60_3) (ol rfl (lo_loadA (i := 0) (vs := [_, _, _, _]) rfl ag56 sz56 rfl rfl rfl) (ol rfl (lo_fieldAddr rfl fl60_3) ?_)))
    refine ow1 (op1_storeAp (i := 2) (vs := [_, _, _, _]) [_, _, _, _, _, _, _, _, _, _, _, _, _, _, _, _, _, _, _, _, _, _, _, _, _, _, _, _, _] rfl rfl rfl sz56 rfl rfl rfl rfl ?_)
    refine ow_nil (blkK_n (seqK_n (cw_seq (cw_region (ol rfl (lo_loadA (i := 2) (vs := [_, _, _, _, _, _, _, _, _, _, _, _, _, _, _, _, _, _, _, _, _, _, _, _, _, _, _, _, _]) rfl ag60 sz60 rfl rfl rfl) ?_)))))
    refine ow1 (op1_storeAll (i := 1) (vs := [_, _, _, _, _, _, _, _, _, _, _, _, _, _, _, _, _, _, _, _, _, _, _, _, _, _, _, _, _]) rfl rfl rfl sz60 rfl rfl rfl ?_)
    refine ow_nil (seqK_n (cw_ret (fnK_r (res1 rfl (rv_c (i := 1) (vs := [_, _, _, _, _, _, _, _, _, _, _, _, _, _, _, _, _, _, _, _, _, _, _, _, _, _, _, _, _]) rfl ag60 sz60 rfl rfl rfl)) (.refl _) ?_)))
    have e : toldD d = (⟨d.kind, d.tick, (⟨[], 0, []⟩ : ShopR), d.queue, (⟨[], [], false, [], [], false⟩ : BindR), [], 0, 0, 0, 0, 0, (⟨0, [], [], [], [], 0, 0⟩ : Mail), []⟩ : DeedR) := by
      unfold toldD
      repeat (first | rw [if_pos (by omega)] | rw [if_neg (by omega)])
      rfl
    rw [e]
    exact ⟨_, _, _, _, rfl, slh_nil, slh_nil⟩
  have p9 := df h7
  refine cw_seq (cw_seq (cw_region (ol rfl (lo_eql rfl rfl) (oab rfl rfl (ow_nil ?_)))))
  refine seqK_n (cw_cond rfl (fun h10 => ?_) (fun h10 => ?_))
  · have p11 := dt h10
    refine cw_skip (seqK_n (cw_cond_t rfl h10 (cw_region (ol rfl (lo_fieldAddr rfl fl60_4) (ol rfl (lo_loadA (i := 0) (vs := [_, _, _, _, _, _]) rfl ag58 sz58 rfl rfl rfl) ?_)))))
    refine ol rfl (lo_fieldAddr rfl fl60_4) ?_
    refine ow1 (op1_storeAp (i := 2) (vs := [_, _, _, _, _, _]) [_, _, _, _, _, _, _, _, _, _, _, _, _, _, _, _, _, _, _, _, _, _, _, _, _, _, _, _, _] rfl rfl rfl sz58 rfl rfl rfl rfl ?_)
    refine ow_nil (blkK_n (seqK_n (cw_seq (cw_region (ol rfl (lo_loadA (i := 2) (vs := [_, _, _, _, _, _, _, _, _, _, _, _, _, _, _, _, _, _, _, _, _, _, _, _, _, _, _, _, _]) rfl ag60 sz60 rfl rfl rfl) ?_)))))
    refine ow1 (op1_storeAll (i := 1) (vs := [_, _, _, _, _, _, _, _, _, _, _, _, _, _, _, _, _, _, _, _, _, _, _, _, _, _, _, _, _]) rfl rfl rfl sz60 rfl rfl rfl ?_)
    refine ow_nil (seqK_n (cw_ret (fnK_r (res1 rfl (rv_c (i := 1) (vs := [_, _, _, _, _, _, _, _, _, _, _, _, _, _, _, _, _, _, _, _, _, _, _, _, _, _, _, _, _]) rfl ag60 sz60 rfl rfl rfl)) (.refl _) ?_)))
    have e : toldD d = (⟨d.kind, d.tick, (⟨[], 0, []⟩ : ShopR), (⟨[], 0, 0, []⟩ : QueueR), d.bind, [], 0, 0, 0, 0, 0, (⟨0, [], [], [], [], 0, 0⟩ : Mail), []⟩ : DeedR) := by
      unfold toldD
      repeat (first | rw [if_pos (by omega)] | rw [if_neg (by omega)])
      rfl
    rw [e]
    exact ⟨_, _, _, _, rfl, d_bind_want_h, slh_nil⟩
  have p12 := df h10
  refine cw_region (ol rfl (lo_eql rfl rfl) (oab rfl rfl (ow_nil (seqK_n (cw_cond rfl (fun h13 => ?_) (fun h13 => ?_))))))
  · have p14 := dt h13
    refine cw_region (ol rfl (lo_fieldAddr rfl fl60_4) (ol rfl (lo_loadA (i := 0) (vs := [_, _, _, _, _, _]) rfl ag58 sz58 rfl rfl rfl) (ol rfl (lo_fieldAddr rfl fl60_4) ?_)))
    refine ow1 (op1_storeAp (i := 2) (vs := [_, _, _, _, _, _]) [_, _, _, _, _, _, _, _, _, _, _, _, _, _, _, _, _, _, _, _, _, _, _, _, _, _, _, _, _] rfl rfl rfl sz58 rfl rfl rfl rfl ?_)
    refine ow_nil (blkK_n (seqK_n (cw_seq (cw_region (ol rfl (lo_loadA (i := 2) (vs := [_, _, _, _, _, _, _, _, _, _, _, _, _, _, _, _, _, _, _, _, _, _, _, _, _, _, _, _, _]) rfl ag60 sz60 rfl rfl rfl) ?_)))))
    refine ow1 (op1_storeAll (i := 1) (vs := [_, _, _, _, _, _, _, _, _, _, _, _, _, _, _, _, _, _, _, _, _, _, _, _, _, _, _, _, _]) rfl rfl rfl sz60 rfl rfl rfl ?_)
    refine ow_nil (seqK_n (cw_ret (fnK_r (res1 rfl (rv_c (i := 1) (vs := [_, _, _, _, _, _, _, _, _, _, _, _, _, _, _, _, _, _, _, _, _, _, _, _, _, _, _, _, _]) rfl ag60 sz60 rfl rfl rfl)) (.refl _) ?_)))
    have e : toldD d = (⟨d.kind, d.tick, (⟨[], 0, []⟩ : ShopR), (⟨[], 0, 0, []⟩ : QueueR), d.bind, [], 0, 0, 0, 0, 0, (⟨0, [], [], [], [], 0, 0⟩ : Mail), []⟩ : DeedR) := by
      unfold toldD
      repeat (first | rw [if_pos (by omega)] | rw [if_neg (by omega)])
      rfl
    rw [e]
    exact ⟨_, _, _, _, rfl, d_bind_want_h, slh_nil⟩
  have p15 := df h13
  refine cw_seq (cw_region (ol rfl (lo_eql rfl rfl) (oab rfl rfl (ow_nil (seqK_n ?_)))))
  refine cw_cond rfl (fun h16 => ?_) (fun h16 => ?_)
  · have p17 := dt h16
    refine cw_region (ol rfl (lo_fieldAddr rfl fl60_11) (ol rfl (lo_loadA (i := 0) (vs := [_, _, _, _, _, _, _]) rfl ag28 sz28 rfl rfl rfl) (ol rfl (lo_fieldAddr rfl fl60_11) ?_)))
    refine ow1 (op1_storeAp (i := 2) (vs := [_, _, _, _, _, _, _]) [_, _, _, _, _, _, _, _, _, _, _, _, _, _, _, _, _, _, _, _, _, _, _, _, _, _, _, _, _] rfl rfl rfl sz28 rfl rfl rfl rfl ?_)
    refine ow_nil (blkK_n (seqK_n (cw_seq (cw_region (ol rfl (lo_loadA (i := 2) (vs := [_, _, _, _, _, _, _, _, _, _, _, _, _, _, _, _, _, _, _, _, _, _, _, _, _, _, _, _, _]) rfl ag60 sz60 rfl rfl rfl) ?_)))))
    refine ow1 (op1_storeAll (i := 1) (vs := [_, _, _, _, _, _, _, _, _, _, _, _, _, _, _, _, _, _, _, _, _, _, _, _, _, _, _, _, _]) rfl rfl rfl sz60 rfl rfl rfl ?_)
    refine ow_nil (seqK_n (cw_ret (fnK_r (res1 rfl (rv_c (i := 1) (vs := [_, _, _, _, _, _, _, _, _, _, _, _, _, _, _, _, _, _, _, _, _, _, _, _, _, _, _, _, _]) rfl ag60 sz60 rfl rfl rfl)) (.refl _) ?_)))
    have e : toldD d = (⟨d.kind, d.tick, (⟨[], 0, []⟩ : ShopR), (⟨[], 0, 0, []⟩ : QueueR), (⟨[], [], false, [], [], false⟩ : BindR), [], 0, 0, 0, 0, 0, d.mail, []⟩ : DeedR) := by
      unfold toldD
      repeat (first | rw [if_pos (by omega)] | rw [if_neg (by omega)])
      rfl
    rw [e]
    exact ⟨_, _, _, _, rfl, slh_nil, d_mail_head_h⟩
  have p18 := df h16
  refine cw_seq (cw_seq (cw_region (ol rfl (lo_eql rfl rfl) (oab rfl rfl (ow_nil ?_)))))
  refine seqK_n (cw_cond rfl (fun h19 => ?_) (fun h19 => ?_))
  · have p20 := dt h19
    refine cw_skip (seqK_n (cw_cond_t rfl h19 (cw_region (ol rfl (lo_fieldAddr rfl fl60_5) (ol rfl (lo_load1 (i := 0) (v := str _) rfl ag9 rfl rfl) ?_)))))
    refine ol rfl (lo_fieldAddr rfl fl60_5) ?_
    refine ow1 (op1_store1n (i := 2) (v := str _) [_, _, _, _, _, _, _, _, _, _, _, _, _, _, _, _, _, _, _, _, _, _, _, _, _, _, _, _, _] rfl rfl rfl sz9 rfl rfl rfl ?_)
    refine ow_nil (blkK_n (seqK_n (cw_seq (cw_region (ol rfl (lo_loadA (i := 2) (vs := [_, _, _, _, _, _, _, _, _, _, _, _, _, _, _, _, _, _, _, _, _, _, _, _, _, _, _, _, _]) rfl ag60 sz60 rfl rfl rfl) ?_)))))
    refine ow1 (op1_storeAll (i := 1) (vs := [_, _, _, _, _, _, _, _, _, _, _, _, _, _, _, _, _, _, _, _, _, _, _, _, _, _, _, _, _]) rfl rfl rfl sz60 rfl rfl rfl ?_)
    refine ow_nil (seqK_n (cw_ret (fnK_r (res1 rfl (rv_c (i := 1) (vs := [_, _, _, _, _, _, _, _, _, _, _, _, _, _, _, _, _, _, _, _, _, _, _, _, _, _, _, _, _]) rfl ag60 sz60 rfl rfl rfl)) (.refl _) ?_)))
    have e : toldD d = (⟨d.kind, d.tick, (⟨[], 0, []⟩ : ShopR), (⟨[], 0, 0, []⟩ : QueueR), (⟨[], [], false, [], [], false⟩ : BindR), d.name, 0, 0, 0, 0, 0, (⟨0, [], [], [], [], 0, 0⟩ : Mail), []⟩ : DeedR) := by
      unfold toldD
      repeat (first | rw [if_pos (by omega)] | rw [if_neg (by omega)])
      rfl
    rw [e]
    exact ⟨_, _, _, _, rfl, slh_nil, slh_nil⟩
  have p21 := df h19
  refine cw_seq (cw_region (ol rfl (lo_eql rfl rfl) (oab rfl rfl (ow_nil (seqK_n ?_)))))
  refine cw_cond rfl (fun h22 => ?_) (fun h22 => ?_)
  · have p23 := dt h22
    refine cw_skip (seqK_n (cw_cond_t rfl h22 (cw_region (ol rfl (lo_fieldAddr rfl fl60_5) (ol rfl (lo_load1 (i := 0) (v := str _) rfl ag9 rfl rfl) ?_)))))
    refine ol rfl (lo_fieldAddr rfl fl60_5) ?_
    refine ow1 (op1_store1n (i := 2) (v := str _) [_, _, _, _, _, _, _, _, _, _, _, _, _, _, _, _, _, _, _, _, _, _, _, _, _, _, _, _, _] rfl rfl rfl sz9 rfl rfl rfl ?_)
    refine ow_nil (blkK_n (seqK_n (cw_seq (cw_region (ol rfl (lo_loadA (i := 2) (vs := [_, _, _, _, _, _, _, _, _, _, _, _, _, _, _, _, _, _, _, _, _, _, _, _, _, _, _, _, _]) rfl ag60 sz60 rfl rfl rfl) ?_)))))
    refine ow1 (op1_storeAll (i := 1) (vs := [_, _, _, _, _, _, _, _, _, _, _, _, _, _, _, _, _, _, _, _, _, _, _, _, _, _, _, _, _]) rfl rfl rfl sz60 rfl rfl rfl ?_)
    refine ow_nil (seqK_n (cw_ret (fnK_r (res1 rfl (rv_c (i := 1) (vs := [_, _, _, _, _, _, _, _, _, _, _, _, _, _, _, _, _, _, _, _, _, _, _, _, _, _, _, _, _]) rfl ag60 sz60 rfl rfl rfl)) (.refl _) ?_)))
    have e : toldD d = (⟨d.kind, d.tick, (⟨[], 0, []⟩ : ShopR), (⟨[], 0, 0, []⟩ : QueueR), (⟨[], [], false, [], [], false⟩ : BindR), d.name, 0, 0, 0, 0, 0, (⟨0, [], [], [], [], 0, 0⟩ : Mail), []⟩ : DeedR) := by
      unfold toldD
      repeat (first | rw [if_pos (by omega)] | rw [if_neg (by omega)])
      rfl
    rw [e]
    exact ⟨_, _, _, _, rfl, slh_nil, slh_nil⟩
  have p24 := df h22
  refine cw_region (ol rfl (lo_eql rfl rfl) (oab rfl rfl (ow_nil (seqK_n (cw_cond rfl (fun h25 => ?_) (fun h25 => ?_))))))
  · have p26 := dt h25
    refine cw_region (ol rfl (lo_fieldAddr rfl fl60_5) (ol rfl (lo_load1 (i := 0) (v := str _) rfl ag9 rfl rfl) (ol rfl (lo_fieldAddr rfl fl60_5) ?_)))
    refine ow1 (op1_store1n (i := 2) (v := str _) [_, _, _, _, _, _, _, _, _, _, _, _, _, _, _, _, _, _, _, _, _, _, _, _, _, _, _, _, _] rfl rfl rfl sz9 rfl rfl rfl ?_)
    refine ow_nil (blkK_n (seqK_n (cw_seq (cw_region (ol rfl (lo_loadA (i := 2) (vs := [_, _, _, _, _, _, _, _, _, _, _, _, _, _, _, _, _, _, _, _, _, _, _, _, _, _, _, _, _]) rfl ag60 sz60 rfl rfl rfl) ?_)))))
    refine ow1 (op1_storeAll (i := 1) (vs := [_, _, _, _, _, _, _, _, _, _, _, _, _, _, _, _, _, _, _, _, _, _, _, _, _, _, _, _, _]) rfl rfl rfl sz60 rfl rfl rfl ?_)
    refine ow_nil (seqK_n (cw_ret (fnK_r (res1 rfl (rv_c (i := 1) (vs := [_, _, _, _, _, _, _, _, _, _, _, _, _, _, _, _, _, _, _, _, _, _, _, _, _, _, _, _, _]) rfl ag60 sz60 rfl rfl rfl)) (.refl _) ?_)))
    have e : toldD d = (⟨d.kind, d.tick, (⟨[], 0, []⟩ : ShopR), (⟨[], 0, 0, []⟩ : QueueR), (⟨[], [], false, [], [], false⟩ : BindR), d.name, 0, 0, 0, 0, 0, (⟨0, [], [], [], [], 0, 0⟩ : Mail), []⟩ : DeedR) := by
      unfold toldD
      repeat (first | rw [if_pos (by omega)] | rw [if_neg (by omega)])
      rfl
    rw [e]
    exact ⟨_, _, _, _, rfl, slh_nil, slh_nil⟩
  have p27 := df h25
  refine cw_seq (cw_region (ol rfl (lo_eql rfl rfl) (oab rfl rfl (ow_nil (seqK_n ?_)))))
  refine cw_cond rfl (fun h28 => ?_) (fun h28 => ?_)
  · have p29 := dt h28
    refine cw_anyX 2 mixd (vw_q 0 rfl (by kernel_rfl) (by repeat (first | exact lle_l0 | exact LLe.refl _ | exact lle_none | refine lle_up ?_ rfl)) (fun _ _ hh hl => lo_fieldAddr rfl fl60_5) ?_)
    refine vw_q 1 rfl (by kernel_rfl) (by repeat (first | exact lle_l0 | exact LLe.refl _ | exact lle_none | refine lle_up ?_ rfl)) (fun _ _ hh hl => lo_load1 (i := 0) (v := str _) rfl ag9 (hl _ _ rfl) rfl) ?_
    refine vw_q 2 rfl (by kernel_rfl) (by repeat (first | exact lle_l0 | exact LLe.refl _ | exact lle_none | refine lle_up ?_ rfl)) (fun _ _ hh hl => lo_fieldAddr rfl fl60_6) ?_
    refine vw_q 3 rfl (by kernel_rfl) (by repeat (first | exact lle_l0 | exact LLe.refl _ | exact lle_none | refine lle_up ?_ rfl)) (fun _ _ hh hl => lo_load1 (i := 0) (v := .int _ _) rfl ag25 (hl _ _ rfl) rfl) ?_
    refine vw_q 4 rfl (by kernel_rfl) (by repeat (first | exact lle_l0 | exact LLe.refl _ | exact lle_none | refine lle_up ?_ rfl)) (fun _ _ hh hl => lo_fieldAddr rfl fl60_7) ?_
    refine vw_q 5 rfl (by kernel_rfl) (by repeat (first | exact lle_l0 | exact LLe.refl _ | exact lle_none | refine lle_up ?_ rfl)) (fun _ _ hh hl => lo_load1 (i := 0) (v := .int _ _) rfl ag5 (hl _ _ rfl) rfl) ?_
    refine vw_q 6 rfl (by kernel_rfl) (by repeat (first | exact lle_l0 | exact LLe.refl _ | exact lle_none | refine lle_up ?_ rfl)) (fun _ _ hh hl => lo_fieldAddr rfl fl60_5) ?_
    refine vw_e 7 rfl (by kernel_rfl) (op1_store1n (i := 2) (v := str _) [_, _, _, _, _, _, _, _, _, _, _, _, _, _, _, _, _, _, _, _, _, _, _, _, _, _, _, _, _] rfl rfl rfl sz9 rfl rfl rfl ?_)
    refine ⟨⟨(.refl _), (by repeat (first | exact lle_l0 | exact LLe.refl _ | exact lle_none | refine lle_up ?_ rfl))⟩, ?_⟩
    refine vw_q 8 rfl (by kernel_rfl) (by repeat (first | exact lle_l0 | exact LLe.refl _ | exact lle_none | refine lle_up ?_ rfl)) (fun _ _ hh hl => lo_fieldAddr rfl fl60_6) ?_
    refine vw_e 9 rfl (by kernel_rfl) (op1_store1n (i := 2) (v := .int _ _) [_, _, _, _, _, _, _, _, _, _, _, _, _, _, _, _, _, _, _, _, _, _, _, _, _, _, _, _, _] rfl rfl rfl sz25 rfl rfl rfl ?_)
    refine ⟨⟨(.refl _), (by repeat (first | exact lle_l0 | exact LLe.refl _ | exact lle_none | refine lle_up ?_ rfl))⟩, ?_⟩
    refine vw_q 10 rfl (by kernel_rfl) (by repeat (first | exact lle_l0 | exact LLe.refl _ | exact lle_none | refine lle_up ?_ rfl)) (fun _ _ hh hl => lo_fieldAddr rfl fl60_7) ?_
    refine vw_t 11 rfl (by kernel_rfl) (by kernel_rfl) (op1_store1n (i := 2) (v := .int _ _) [_, _, _, _, _, _, _, _, _, _, _, _, _, _, _, _, _, _, _, _, _, _, _, _, _, _, _, _, _] rfl rfl rfl sz5 rfl rfl rfl ?_)
    refine vw_done (by kernel_rfl) (blkK_n (seqK_n (cw_seq (cw_region (ol rfl (lo_loadA (i := 2) (vs := [_, _, _, _, _, _, _, _, _, _, _, _, _, _, _, _, _, _, _, _, _, _, _, _, _, _, _, _, _]) rfl ag60 sz60 rfl rfl rfl) ?_)))))
    refine ow1 (op1_storeAll (i := 1) (vs := [_, _, _, _, _, _, _, _, _, _, _, _, _, _, _, _, _, _, _, _, _, _, _, _, _, _, _, _, _]) rfl rfl rfl sz60 rfl rfl rfl ?_)
    refine ow_nil (seqK_n (cw_ret (fnK_r (res1 rfl (rv_c (i := 1) (vs := [_, _, _, _, _, _, _, _, _, _, _, _, _, _, _, _, _, _, _, _, _, _, _, _, _, _, _, _, _]) rfl ag60 sz60 rfl rfl rfl)) (.refl _) ?_)))
    have e : toldD d = (⟨d.kind, d.tick, (⟨[], 0, []⟩ : ShopR), (⟨[], 0, 0, []⟩ : QueueR), (⟨[], [], false, [], [], false⟩ : BindR), d.name, d.id, d.how, 0, 0, 0, (⟨0, [], [], [], [], 0, 0⟩ : Mail), []⟩ : DeedR) := by
      unfold toldD
      repeat (first | rw [if_pos (by omega)] | rw [if_neg (by omega)])
      rfl
    rw [e]
    exact ⟨_, _, _, _, rfl, slh_nil, slh_nil⟩
  have p30 := df h28
  refine cw_seq (cw_region (ol rfl (lo_eql rfl rfl) (oab rfl rfl (ow_nil (seqK_n ?_)))))
  refine cw_cond rfl (fun h31 => ?_) (fun h31 => ?_)
  · have p32 := dt h31
    refine cw_anyX 2 mixd (vw_q 0 rfl (by kernel_rfl) (by repeat (first | exact lle_l0 | exact LLe.refl _ | exact lle_none | refine lle_up ?_ rfl)) (fun _ _ hh hl => lo_fieldAddr rfl fl60_8) ?_)
    refine vw_q 1 rfl (by kernel_rfl) (by repeat (first | exact lle_l0 | exact LLe.refl _ | exact lle_none | refine lle_up ?_ rfl)) (fun _ _ hh hl => lo_load1 (i := 0) (v := .int _ _) rfl ag5 (hl _ _ rfl) rfl) ?_
    refine vw_q 2 rfl (by kernel_rfl) (by repeat (first | exact lle_l0 | exact LLe.refl _ | exact lle_none | refine lle_up ?_ rfl)) (fun _ _ hh hl => lo_fieldAddr rfl fl60_10) ?_
    refine vw_q 3 rfl (by kernel_rfl) (by repeat (first | exact lle_l0 | exact LLe.refl _ | exact lle_none | refine lle_up ?_ rfl)) (fun _ _ hh hl => lo_load1 (i := 0) (v := .int _ _) rfl ag25 (hl _ _ rfl) rfl) ?_
    refine vw_q 4 rfl (by kernel_rfl) (by repeat (first | exact lle_l0 | exact LLe.refl _ | exact lle_none | refine lle_up ?_ rfl)) (fun _ _ hh hl => lo_fieldAddr rfl fl60_11) ?_
    refine vw_q 5 rfl (by kernel_rfl) (by repeat (first | exact lle_l0 | exact LLe.refl _ | exact lle_none | refine lle_up ?_ rfl)) (fun _ _ hh hl => lo_loadA (i := 0) (vs := [_, _, _, _, _, _, _]) rfl ag28 sz28 (hl _ _ rfl) rfl rfl) ?_
    refine vw_q 6 rfl (by kernel_rfl) (by repeat (first | exact lle_l0 | exact LLe.refl _ | exact lle_none | refine lle_up ?_ rfl)) (fun _ _ hh hl => lo_fieldAddr rfl fl60_8) ?_
    refine vw_e 7 rfl (by kernel_rfl) (op1_store1n (i := 2) (v := .int _ _) [_, _, _, _, _, _, _, _, _, _, _, _, _, _, _, _, _, _, _, _, _, _, _, _, _, _, _, _, _] rfl rfl rfl sz5 rfl rfl rfl ?_)
    refine ⟨⟨(.refl _), (by repeat (first | exact lle_l0 | exact LLe.refl _ | exact lle_none | refine lle_up ?_ rfl))⟩, ?_⟩
    refine vw_q 8 rfl (by kernel_rfl) (by repeat (first | exact lle_l0 | exact LLe.refl _ | exact lle_none | refine lle_up ?_ rfl)) (fun _ _ hh hl => lo_fieldAddr rfl fl60_10) ?_
    refine vw_e 9 rfl (by kernel_rfl) (op1_store1n (i := 2) (v := .int _ _) [_, _, _, _, _, _, _, _, _, _, _, _, _, _, _, _, _, _, _, _, _, _, _, _, _, _, _, _, _] rfl rfl rfl sz25 rfl rfl rfl ?_)
    refine ⟨⟨(.refl _), (by repeat (first | exact lle_l0 | exact LLe.refl _ | exact lle_none | refine lle_up ?_ rfl))⟩, ?_⟩
    refine vw_q 10 rfl (by kernel_rfl) (by repeat (first | exact lle_l0 | exact LLe.refl _ | exact lle_none | refine lle_up ?_ rfl)) (fun _ _ hh hl => lo_fieldAddr rfl fl60_11) ?_
    refine vw_t 11 rfl (by kernel_rfl) (by kernel_rfl) (op1_storeAp (i := 2) (vs := [_, _, _, _, _, _, _]) [_, _, _, _, _, _, _, _, _, _, _, _, _, _, _, _, _, _, _, _, _, _, _, _, _, _, _, _, _] rfl rfl rfl sz28 rfl rfl rfl rfl ?_)
    refine vw_done (by kernel_rfl) (blkK_n (seqK_n (cw_seq (cw_region (ol rfl (lo_loadA (i := 2) (vs := [_, _, _, _, _, _, _, _, _, _, _, _, _, _, _, _, _, _, _, _, _, _, _, _, _, _, _, _, _]) rfl ag60 sz60 rfl rfl rfl) ?_)))))
    refine ow1 (op1_storeAll (i := 1) (vs := [_, _, _, _, _, _, _, _, _, _, _, _, _, _, _, _, _, _, _, _, _, _, _, _, _, _, _, _, _]) rfl rfl rfl sz60 rfl rfl rfl ?_)
    refine ow_nil (seqK_n (cw_ret (fnK_r (res1 rfl (rv_c (i := 1) (vs := [_, _, _, _, _, _, _, _, _, _, _, _, _, _, _, _, _, _, _, _, _, _, _, _, _, _, _, _, _]) rfl ag60 sz60 rfl rfl rfl)) (.refl _) ?_)))
    have e : toldD d = (⟨d.kind, d.tick, (⟨[], 0, []⟩ : ShopR), (⟨[], 0, 0, []⟩ : QueueR), (⟨[], [], false, [], [], false⟩ : BindR), [], 0, 0, d.frm, 0, d.number, d.mail, []⟩ : DeedR) := by
      unfold toldD
      repeat (first | rw [if_pos (by omega)] | rw [if_neg (by omega)])
      rfl
    rw [e]
    exact ⟨_, _, _, _, rfl, slh_nil, d_mail_head_h⟩
  have p33 := df h31
  refine cw_seq (cw_region (ol rfl (lo_eql rfl rfl) (oab rfl rfl (ow_nil (seqK_n ?_)))))
  refine cw_cond rfl (fun h34 => ?_) (fun h34 => ?_)
  · have p35 := dt h34
    refine cw_anyX 2 mixd (vw_q 0 rfl (by kernel_rfl) (by repeat (first | exact lle_l0 | exact LLe.refl _ | exact lle_none | refine lle_up ?_ rfl)) (fun _ _ hh hl => lo_fieldAddr rfl fl60_9) ?_)
    refine vw_q 1 rfl (by kernel_rfl) (by repeat (first | exact lle_l0 | exact LLe.refl _ | exact lle_none | refine lle_up ?_ rfl)) (fun _ _ hh hl => lo_load1 (i := 0) (v := .int _ _) rfl ag5 (hl _ _ rfl) rfl) ?_
    refine vw_q 2 rfl (by kernel_rfl) (by repeat (first | exact lle_l0 | exact LLe.refl _ | exact lle_none | refine lle_up ?_ rfl)) (fun _ _ hh hl => lo_fieldAddr rfl fl60_12) ?_
    refine vw_q 3 rfl (by kernel_rfl) (by repeat (first | exact lle_l0 | exact LLe.refl _ | exact lle_none | refine lle_up ?_ rfl)) (fun _ _ hh hl => lo_load1 (i := 0) (v := str _) rfl ag9 (hl _ _ rfl) rfl) ?_
    refine vw_q 4 rfl (by kernel_rfl) (by repeat (first | exact lle_l0 | exact LLe.refl _ | exact lle_none | refine lle_up ?_ rfl)) (fun _ _ hh hl => lo_fieldAddr rfl fl60_9) ?_
    refine vw_e 5 rfl (by kernel_rfl) (op1_store1n (i := 2) (v := .int _ _) [_, _, _, _, _, _, _, _, _, _, _, _, _, _, _, _, _, _, _, _, _, _, _, _, _, _, _, _, _] rfl rfl rfl sz5 rfl rfl rfl ?_)
    refine ⟨⟨(.refl _), (by repeat (first | exact lle_l0 | exact LLe.refl _ | exact lle_none | refine lle_up ?_ rfl))⟩, ?_⟩
    refine vw_q 6 rfl (by kernel_rfl) (by repeat (first | exact lle_l0 | exact LLe.refl _ | exact lle_none | refine lle_up ?_ rfl)) (fun _ _ hh hl => lo_fieldAddr rfl fl60_12) ?_
    refine vw_t 7 rfl (by kernel_rfl) (by kernel_rfl) (op1_store1n (i := 2) (v := str _) [_, _, _, _, _, _, _, _, _, _, _, _, _, _, _, _, _, _, _, _, _, _, _, _, _, _, _, _, _] rfl rfl rfl sz9 rfl rfl rfl ?_)
    refine vw_done (by kernel_rfl) (blkK_n (seqK_n (cw_seq (cw_region (ol rfl (lo_loadA (i := 2) (vs := [_, _, _, _, _, _, _, _, _, _, _, _, _, _, _, _, _, _, _, _, _, _, _, _, _, _, _, _, _]) rfl ag60 sz60 rfl rfl rfl) ?_)))))
    refine ow1 (op1_storeAll (i := 1) (vs := [_, _, _, _, _, _, _, _, _, _, _, _, _, _, _, _, _, _, _, _, _, _, _, _, _, _, _, _, _]) rfl rfl rfl sz60 rfl rfl rfl ?_)
    refine ow_nil (seqK_n (cw_ret (fnK_r (res1 rfl (rv_c (i := 1) (vs := [_, _, _, _, _, _, _, _, _, _, _, _, _, _, _, _, _, _, _, _, _, _, _, _, _, _, _, _, _]) rfl ag60 sz60 rfl rfl rfl)) (.refl _) ?_)))
    have e : toldD d = (⟨d.kind, d.tick, (⟨[], 0, []⟩ : ShopR), (⟨[], 0, 0, []⟩ : QueueR), (⟨[], [], false, [], [], false⟩ : BindR), [], 0, 0, 0, d.code, 0, (⟨0, [], [], [], [], 0, 0⟩ : Mail), d.text⟩ : DeedR) := by
      unfold toldD
      repeat (first | rw [if_pos (by omega)] | rw [if_neg (by omega)])
      rfl
    rw [e]
    exact ⟨_, _, _, _, rfl, slh_nil, slh_nil⟩
  have p36 := df h34
  refine cw_skip (blkK_n (seqK_n (cw_seq (cw_region (ol rfl (lo_loadA (i := 2) (vs := [_, _, _, _, _, _, _, _, _, _, _, _, _, _, _, _, _, _, _, _, _, _, _, _, _, _, _, _, _]) rfl ag60 sz60 rfl rfl rfl) ?_)))))
  refine ow1 (op1_storeAll (i := 1) (vs := [_, _, _, _, _, _, _, _, _, _, _, _, _, _, _, _, _, _, _, _, _, _, _, _, _, _, _, _, _]) rfl rfl rfl sz60 rfl rfl rfl ?_)
  refine ow_nil (seqK_n (cw_ret (fnK_r (res1 rfl (rv_c (i := 1) (vs := [_, _, _, _, _, _, _, _, _, _, _, _, _, _, _, _, _, _, _, _, _, _, _, _, _, _, _, _, _]) rfl ag60 sz60 rfl rfl rfl)) (.refl _) ?_)))
  have e : toldD d = (⟨d.kind, d.tick, (⟨[], 0, []⟩ : ShopR), (⟨[], 0, 0, []⟩ : QueueR), (⟨[], [], false, [], [], false⟩ : BindR), [], 0, 0, 0, 0, 0, (⟨0, [], [], [], [], 0, 0⟩ : Mail), []⟩ : DeedR) := by
    unfold toldD
    repeat (first | rw [if_pos (by omega)] | rw [if_neg (by omega)])
    rfl
  rw [e]
  exact ⟨_, _, _, _, rfl, slh_nil, slh_nil⟩
end Go.SW
set_option linter.unusedVariables false
set_option maxRecDepth 100000
set_option maxHeartbeats 4000000
namespace Go.SW
open Go.Proofs
theorem cb114 : Callable Tryz.prog 114 := callable_of Tryz.func114 (by kernel_rfl) (by kernel_rfl)
theorem cb115 : Callable Tryz.prog 115 := callable_of Tryz.func115 (by kernel_rfl) (by kernel_rfl)
theorem cb117 : Callable Tryz.prog 117 := callable_of Tryz.func117 (by kernel_rfl) (by kernel_rfl)
theorem cb118 : Callable Tryz.prog 118 := callable_of Tryz.func118 (by kernel_rfl) (by kernel_rfl)
theorem cb36 : Callable Tryz.prog 36 := callable_of Tryz.func36 (by kernel_rfl) (by kernel_rfl)
theorem fl54_0 : Fld Tryz.prog 54 0 0 := fun b o w => by kernel_rfl
theorem fl54_1 : Fld Tryz.prog 54 1 1 := fun b o w => by kernel_rfl
theorem fl54_2 : Fld Tryz.prog 54 2 2 := fun b o w => by kernel_rfl
theorem fl56_0 : Fld Tryz.prog 56 0 0 := fun b o w => by kernel_rfl
theorem fl56_3 : Fld Tryz.prog 56 3 3 := fun b o w => by kernel_rfl
theorem zr58 : Zr Tryz.prog 58 [str [], str [], .bool false, str [], .slice none 0 0, .bool false] := fun w => ⟨.agg #[str [], str [], .bool false, str [], .slice none 0 0, .bool false], by kernel_rfl, rfl⟩
theorem zx39 : ∃ z, ∀ w, (zeroValue 39).run Tryz.prog w = .ok z w := ⟨.int .i64 0, fun w => by kernel_rfl⟩
theorem deed_first (H : Hp) (l_a : Option Addr) (l_l l_c : Nat) (l : List Int) (l_h : SlH (FE (fun z => [.int .i64 z]) (fun _ => True)) 1 H (.slice l_a l_l l_c) l) (hl : l.length ≤ 1000) : Pr Tryz.prog 115 #[.slice l_a l_l l_c] H (.int .i64 (firstE l)) := by
  refine pr_cw Tryz.func115 rfl Tryz.ntmps115 rfl (fun N => ?_)
  refine cw_seq (cw_region (oai rfl rfl (ow_nil (seqK_n (cw_seq ?_)))))
  refine cw_seq (cw_region (ol rfl (lo_move (v := .slice _ _ _) rfl) (ol rfl (lo_len_slh rfl l_h Tryz.underlying256) (omi rfl rfl (ow_nil ?_)))))
  refine seqK_n (cw_block (cw_loop1 [2, 4, 7, 8, 9, 10, 11, 12, 13, 14] [] (fun (k : Nat) G => upd (G) 7 (.int .i64 (k : Int))) (fun (k : Nat) G => G) (fun (k : Nat) H' => k ≤ l.length ∧ firstE l = firstE (l.drop k)) (fun (k : Nat) => l.length - k) 0 (upd_intro (mask_intro (by first | exact off_refl | (repeat (first | exact off_mask | refine off_upd rfl ?_ | refine off_mask2 rfl ?_)))) rfl) (lmask_intro offl_refl) ?_ ?_))
  · exact ⟨Nat.zero_le _, rfl⟩
  intro k J2 JL2 H2 hp1 hl2
  obtain ⟨hk1, hk2⟩ := hp1
  refine cw_seq (cw_region (ol rfl (lo_lss rfl rfl) (ow_nil (seqK_n (cw_seq ?_)))))
  refine cw_cond rfl (fun h3 => ?_) (fun h3 => ?_)
  · have p4 := dt h3
    refine cw_skip (seqK_n (cw_seq (cw_block (cw_seq (cw_region ?_)))))
    obtain ⟨c5, hc6⟩ := getE (xs := l) (m := k) (by omega)
    obtain ⟨cs7, hE8, at9⟩ := (l_h.mono ((HLe.refl _).trans hl2) (fun _ _ h => h)).get hc6
    obtain ⟨rfl, c5_w⟩ := hE8
    refine ol rfl (lo_indexAddr rfl rfl (l_h.mono ((HLe.refl _).trans hl2) (fun _ _ h => h)).1 at9 Tryz.underlying256 sz39 (by omega) (by omega)) (ol rfl (lo_loadE1 rfl ag39 at9) (oai rfl rfl (ow_nil (seqK_n (cw_seq ?_)))))
    refine cw_region (omi rfl rfl (ol rfl (lo_neq rfl rfl) (ow_nil (seqK_n (cw_cond rfl (fun h10 => ?_) (fun h10 => ?_))))))
    · have h11 := not_t h10
      have p12 := df h11
      refine cw_seq (cw_region (omi rfl rfl (oai rfl rfl (ow_nil (seqK_n ?_)))))
      refine cw_ret (blkK_r (seqK_r (loopK_r (blkK_r (seqK_r ?_)))))
      refine fnK_r (res1 rfl (rv_t (v := .int _ _) rfl)) ((HLe.refl _).trans hl2) (congrArg (Value.int .i64) ?_)
      rw [hk2, dropE hc6]
      unfold firstE
      rw [if_pos (by assumption)]
    have h13 := not_f h10
    have p14 := dt h13
    refine cw_skip (blkK_n (seqK_n (cw_region (ol rfl (lo_add rfl rfl (rg_i64 (by omega))) (omi rfl rfl ?_)))))
    refine ow_nil ?_
    refine next1 (k + 1) (upd_intro (mask_intro (by first | exact off_refl | (repeat (first | exact off_mask | refine off_upd rfl ?_ | refine off_mask2 rfl ?_)))) rfl) (lmask_intro (by first | exact offl_refl | (repeat (first | exact offl_mask | refine offl_upd rfl ?_ | refine offl_mask2 rfl ?_)))) hl2 ?_ ?_
    · refine ⟨by omega, ?_⟩
      rw [hk2, dropE hc6]
      conv => lhs; unfold firstE
      rw [if_neg (by omega)]
    omega
  have p15 := df h3
  refine cw_exit (seqK_e (loopK_e (blkK_hit (seqK_n (cw_seq ?_)))))
  refine cw_region (oai rfl rfl (ow_nil (seqK_n (cw_ret (fnK_r (res1 rfl (rv_t (v := .int _ _) rfl)) ((HLe.refl _).trans hl2) ?_)))))
  refine congrArg (Value.int .i64) ?_
  rw [hk2, List.drop_of_length_le (by omega)]
  rfl
theorem deed_Check (H : Hp) (d : DeedR) (d_bind_want_a : Option Addr) (d_bind_want_c : Nat) (d_bind_want_h : SlH pairE 4 H (.slice d_bind_want_a d.bind.want.length d_bind_want_c) d.bind.want) (d_mail_head_a : Option Addr) (d_mail_head_c : Nat) (d_mail_head_h : SlH pairE 4 H (.slice d_mail_head_a d.mail.head.length d_mail_head_c) d.mail.head) (d_w : DeedR.wf d) (hML : GInt H 2) : Pr Tryz.prog 34 #[.agg (DeedR.cells d d_bind_want_a d_bind_want_c d_mail_head_a d_mail_head_c).toArray] H (.int .i64 (deedE d)) := by
  refine pr_cw Tryz.func34 rfl Tryz.ntmps34 rfl (fun N => ?_)
  have d_w' := d_w
  simp only [DeedR.wf, ShopR.wf, QueueR.wf, BindR.wf, Mail.wf] at d_w'
  refine cw_seq (cw_region (ow1 (op1_box (cs := [_, _, _, _, _, _, _, _, _, _, _, _, _, _, _, _, _, _, _, _, _, _, _, _, _, _, _, _, _]) 0 rfl rfl (fun b1 => ?_))))
  refine oai rfl rfl (ow_nil (seqK_n (cw_seq (cw_block (cw_seq ?_)))))
  refine cw_region (ol rfl (lo_fieldAddr rfl fl60_0) (ol rfl (lo_load1 (i := 0) (v := .int _ _) rfl ag5 rfl rfl) (ol rfl (lo_gtr rfl rfl) (oab rfl rfl (ow_nil ?_)))))
  refine seqK_n (cw_cond rfl (fun h2 => ?_) (fun h2 => ?_))
  · have p3 := dt h2
    refine cw_seq (cw_region (oai rfl rfl (ow_nil (seqK_n (cw_ret ?_)))))
    refine blkK_r (seqK_r (fnK_r (res1 rfl (rv_t (v := .int _ _) rfl)) (.refl _) (congrArg (Value.int .i64) ?_)))
    unfold deedE
    repeat (first | rw [if_pos (by omega)] | rw [if_neg (by omega)] | rw [if_pos (by assumption)] | rw [if_neg (fun q => q (by assumption))])
    all_goals rfl
  have p4 := df h2
  refine cw_seq (cw_anyL mixd (vw_q 0 rfl (by kernel_rfl) (by repeat (first | exact lle_l0 | exact LLe.refl _ | exact lle_none | refine lle_up ?_ rfl)) (fun _ _ hh hl => lo_loadA (i := 0) (vs := [_, _, _, _, _, _, _, _, _, _, _, _, _, _, _, _, _, _, _, _, _, _, _, _, _, _, _, _, _]) rfl ag60 sz60 (hl _ _ rfl) rfl rfl) ?_))
  refine vw_q 1 rfl (by kernel_rfl) (by repeat (first | exact lle_l0 | exact LLe.refl _ | exact lle_none | refine lle_up ?_ rfl)) (fun _ _ hh hl => lo_loadA (i := 0) (vs := [_, _, _, _, _, _, _, _, _, _, _, _, _, _, _, _, _, _, _, _, _, _, _, _, _, _, _, _, _]) rfl ag60 sz60 (hl _ _ rfl) rfl rfl) ?_
  refine vw_e 2 rfl (by kernel_rfl) (op1_ph (deed_told _ d d_bind_want_a d_bind_want_c d_bind_want_h d_mail_head_a d_mail_head_c d_mail_head_h d_w) (en_f cb114 rfl) rfl ?_)
  rintro _ H12 ⟨a5, c6, a8, c9, rfl, hs7, hs10⟩ hl11
  refine ⟨⟨((HLe.refl _).trans hl11), (by repeat (first | exact lle_l0 | exact LLe.refl _ | exact lle_none | refine lle_up ?_ rfl))⟩, ?_⟩
  refine vw_qc 3 rfl (by kernel_rfl) (by repeat (first | exact lle_l0 | exact LLe.refl _ | exact lle_none | refine lle_up ?_ rfl)) (deed_Same _ d d_bind_want_a d_bind_want_c (d_bind_want_h.mono ((HLe.refl _).trans hl11) (fun _ _ h => h)) d_mail_head_a d_mail_head_c (d_mail_head_h.mono ((HLe.refl _).trans hl11) (fun _ _ h => h)) d_w (toldD d) a5 c6 hs7 a8 c9 hs10 (toldD_wf d_w)) (en_f cb36 rfl) ?_
  refine vw_q 4 rfl (by kernel_rfl) (by repeat (first | exact lle_l0 | exact LLe.refl _ | exact lle_none | refine lle_up ?_ rfl)) (fun _ _ hh hl => lo_not rfl) ?_
  refine vw_q 5 rfl (by kernel_rfl) (by repeat (first | exact lle_l0 | exact LLe.refl _ | exact lle_none | refine lle_up ?_ rfl)) (fun _ _ hh hl => lo_assign (v := .bool _) rfl) ?_
  refine vw_done (by kernel_rfl) (seqK_n (cw_cond rfl (fun h13 => ?_) (fun h13 => ?_)))
  · have h14 := not_t h13
    have p15 := df h14
    refine cw_seq (cw_region (oai rfl rfl (ow_nil (seqK_n (cw_ret ?_)))))
    refine blkK_r (seqK_r (fnK_r (res1 rfl (rv_t (v := .int _ _) rfl)) ((HLe.refl _).trans hl11) (congrArg (Value.int .i64) ?_)))
    unfold deedE
    repeat (first | rw [if_pos (by omega)] | rw [if_neg (by omega)] | rw [if_pos (by assumption)] | rw [if_neg (fun q => q (by assumption))])
    all_goals rfl
  have h16 := not_f h13
  have p17 := dt h16
  refine cw_skip (blkK_n (seqK_n (cw_seq (cw_seq (cw_region ?_)))))
  refine ol rfl (lo_fieldAddr rfl fl60_0) (ol rfl (lo_load1 (i := 0) (v := .int _ _) rfl ag5 rfl rfl) (ow_nil (seqK_n (cw_block (cw_seq ?_)))))
  refine cw_region (ol rfl (lo_eql rfl rfl) (oab rfl rfl (ow_nil (seqK_n (cw_cond rfl (fun h18 => ?_) (fun h18 => ?_))))))
  · have p19 := dt h18
    refine cw_seq (cw_anyL mixd (vw_q 0 rfl (by kernel_rfl) (by repeat (first | exact lle_l0 | exact LLe.refl _ | exact lle_none | refine lle_up ?_ rfl)) (fun _ _ hh hl => lo_fieldAddr rfl fl60_2) ?_))
    refine vw_q 1 rfl (by kernel_rfl) (by repeat (first | exact lle_l0 | exact LLe.refl _ | exact lle_none | refine lle_up ?_ rfl)) (fun _ _ hh hl => lo_fieldAddr rfl fl54_0) ?_
    refine vw_q 2 rfl (by kernel_rfl) (by repeat (first | exact lle_l0 | exact LLe.refl _ | exact lle_none | refine lle_up ?_ rfl)) (fun _ _ hh hl => lo_load1 (i := 0) (v := str _) rfl ag9 (hl _ _ rfl) rfl) ?_
    refine vw_qc 3 rfl (by kernel_rfl) (by repeat (first | exact lle_l0 | exact LLe.refl _ | exact lle_none | refine lle_up ?_ rfl)) (words_Name _ d.shop.name (by first | omega | decide | (simp; done))) (en_f cb116 rfl) ?_
    refine vw_q 4 rfl (by kernel_rfl) (by repeat (first | exact lle_l0 | exact LLe.refl _ | exact lle_none | refine lle_up ?_ rfl)) (fun _ _ hh hl => lo_fieldAddr rfl fl60_2) ?_
    refine vw_q 5 rfl (by kernel_rfl) (by repeat (first | exact lle_l0 | exact LLe.refl _ | exact lle_none | refine lle_up ?_ rfl)) (fun _ _ hh hl => lo_fieldAddr rfl fl54_1) ?_
    refine vw_q 6 rfl (by kernel_rfl) (by repeat (first | exact lle_l0 | exact LLe.refl _ | exact lle_none | refine lle_up ?_ rfl)) (fun _ _ hh hl => lo_load1 (i := 0) (v := .int _ _) rfl ag5 (hl _ _ rfl) rfl) ?_
    refine vw_q 7 rfl (by kernel_rfl) (by repeat (first | exact lle_l0 | exact LLe.refl _ | exact lle_none | refine lle_up ?_ rfl)) (fun _ _ hh hl => lo_gtr rfl rfl) ?_
    refine vw_qc 8 rfl (by kernel_rfl) (by repeat (first | exact lle_l0 | exact LLe.refl _ | exact lle_none | refine lle_up ?_ rfl)) (deed_bound _ (decide (4 < d.shop.sort)) 8 (by omega)) (en_f cb117 rfl) ?_
    refine vw_q 9 rfl (by kernel_rfl) (by repeat (first | exact lle_l0 | exact LLe.refl _ | exact lle_none | refine lle_up ?_ rfl)) (fun _ _ hh hl => lo_fieldAddr rfl fl60_2) ?_
    refine vw_q 10 rfl (by kernel_rfl) (by repeat (first | exact lle_l0 | exact LLe.refl _ | exact lle_none | refine lle_up ?_ rfl)) (fun _ _ hh hl => lo_fieldAddr rfl fl54_2) ?_
    refine vw_q 11 rfl (by kernel_rfl) (by repeat (first | exact lle_l0 | exact LLe.refl _ | exact lle_none | refine lle_up ?_ rfl)) (fun _ _ hh hl => lo_load1 (i := 0) (v := str _) rfl ag9 (hl _ _ rfl) rfl) ?_
    have := maybeE_r d.shop.to
    refine vw_qc 12 rfl (by kernel_rfl) (by repeat (first | exact lle_l0 | exact LLe.refl _ | exact lle_none | refine lle_up ?_ rfl)) (deed_maybe _ d.shop.to (by first | omega | decide | (simp; done))) (en_f cb118 rfl) ?_
    refine vw_e 13 rfl (by kernel_rfl) (op1_bslice (cs := [_, _, _]) 1 rfl Tryz.underlying256 sz39 zx39 rfl ⟨rfl, rfl, ⟨rfl, rfl, ⟨rfl, rfl, trivial⟩⟩⟩ rfl rfl (by decide) (fun b20 => ?_))
    refine ⟨⟨(.refl _), (by repeat (first | exact lle_l0 | exact LLe.refl _ | exact lle_none | refine lle_up ?_ rfl))⟩, ?_⟩
    refine vw_giveO 1 rfl (by repeat (first | exact lle_l0 | exact LLe.refl _ | exact lle_none | refine lle_up ?_ rfl)) (by kernel_rfl) (fun _ hl21 hg22 => ?_)
    have hs23 := slh_bx (k := 1) (H := _) (enc := (fun z => [.int .i64 z])) (wf := (fun _ => True)) [nameE d.shop.name, boundE (decide (4 < d.shop.sort)) 8, maybeE d.shop.to] (fun _ => rfl) (hg22 _ _ rfl) rfl rfl (Nat.le_refl _) (fun _ _ => trivial)
    refine vw_qc 14 rfl (by kernel_rfl) (by repeat (first | exact lle_l0 | exact LLe.refl _ | exact lle_none | refine lle_up ?_ rfl)) (deed_first _ (some ⟨b20, 0, none⟩) 3 3 [nameE d.shop.name, boundE (decide (4 < d.shop.sort)) 8, maybeE d.shop.to] hs23 (by first | omega | (simp; done) | decide)) (en_f cb115 rfl) ?_
    refine vw_q 15 rfl (by kernel_rfl) (by repeat (first | exact lle_l0 | exact LLe.refl _ | exact lle_none | refine lle_up ?_ rfl)) (fun _ _ hh hl => lo_assign (v := .int _ _) rfl) ?_
    refine vw_done (by kernel_rfl) (seqK_n (cw_ret (blkK_r (seqK_r (fnK_r (res1 rfl (rv_t (v := .int _ _) rfl)) (((HLe.refl _).trans hl11).trans hl21) ?_)))))
    refine congrArg (Value.int .i64) ?_
    unfold deedE
    repeat (first | rw [if_pos (by omega)] | rw [if_neg (by omega)] | rw [if_pos (by assumption)] | rw [if_neg (fun q => q (by assumption))])
    all_goals rfl
  have p24 := df h18
  refine cw_seq (cw_region (ol rfl (lo_eql rfl rfl) (oab rfl rfl (ow_nil (seqK_n ?_)))))
  refine cw_cond rfl (fun h25 => ?_) (fun h25 => ?_)
  · have p26 := dt h25
    refine cw_seq (cw_anyL mixd (vw_q 0 rfl (by kernel_rfl) (by repeat (first | exact lle_l0 | exact LLe.refl _ | exact lle_none | refine lle_up ?_ rfl)) (fun _ _ hh hl => lo_fieldAddr rfl fl60_3) ?_))
    refine vw_q 1 rfl (by kernel_rfl) (by repeat (first | exact lle_l0 | exact LLe.refl _ | exact lle_none | refine lle_up ?_ rfl)) (fun _ _ hh hl => lo_fieldAddr rfl fl56_0) ?_
    refine vw_q 2 rfl (by kernel_rfl) (by repeat (first | exact lle_l0 | exact LLe.refl _ | exact lle_none | refine lle_up ?_ rfl)) (fun _ _ hh hl => lo_load1 (i := 0) (v := str _) rfl ag9 (hl _ _ rfl) rfl) ?_
    refine vw_qc 3 rfl (by kernel_rfl) (by repeat (first | exact lle_l0 | exact LLe.refl _ | exact lle_none | refine lle_up ?_ rfl)) (words_Name _ d.queue.name (by first | omega | decide | (simp; done))) (en_f cb116 rfl) ?_
    refine vw_q 4 rfl (by kernel_rfl) (by repeat (first | exact lle_l0 | exact LLe.refl _ | exact lle_none | refine lle_up ?_ rfl)) (fun _ _ hh hl => lo_fieldAddr rfl fl60_3) ?_
    refine vw_q 5 rfl (by kernel_rfl) (by repeat (first | exact lle_l0 | exact LLe.refl _ | exact lle_none | refine lle_up ?_ rfl)) (fun _ _ hh hl => lo_fieldAddr rfl fl56_3) ?_
    refine vw_q 6 rfl (by kernel_rfl) (by repeat (first | exact lle_l0 | exact LLe.refl _ | exact lle_none | refine lle_up ?_ rfl)) (fun _ _ hh hl => lo_load1 (i := 0) (v := str _) rfl ag9 (hl _ _ rfl) rfl) ?_
    have := maybeE_r d.queue.dead
    refine vw_qc 7 rfl (by kernel_rfl) (by repeat (first | exact lle_l0 | exact LLe.refl _ | exact lle_none | refine lle_up ?_ rfl)) (deed_maybe _ d.queue.dead (by first | omega | decide | (simp; done))) (en_f cb118 rfl) ?_
    refine vw_e 8 rfl (by kernel_rfl) (op1_bslice (cs := [_, _]) 1 rfl Tryz.underlying256 sz39 zx39 rfl ⟨rfl, rfl, ⟨rfl, rfl, trivial⟩⟩ rfl rfl (by decide) (fun b27 => ?_))
    refine ⟨⟨(.refl _), (by repeat (first | exact lle_l0 | exact LLe.refl _ | exact lle_none | refine lle_up ?_ rfl))⟩, ?_⟩
    refine vw_giveO 1 rfl (by repeat (first | exact lle_l0 | exact LLe.refl _ | exact lle_none | refine lle_up ?_ rfl)) (by kernel_rfl) (fun _ hl28 hg29 => ?_)
    have hs30 := slh_bx (k := 1) (H := _) (enc := (fun z => [.int .i64 z])) (wf := (fun _ => True)) [nameE d.queue.name, maybeE d.queue.dead] (fun _ => rfl) (hg29 _ _ rfl) rfl rfl (Nat.le_refl _) (fun _ _ => trivial)
    refine vw_qc 9 rfl (by kernel_rfl) (by repeat (first | exact lle_l0 | exact LLe.refl _ | exact lle_none | refine lle_up ?_ rfl)) (deed_first _ (some ⟨b27, 0, none⟩) 2 2 [nameE d.queue.name, maybeE d.queue.dead] hs30 (by first | omega | (simp; done) | decide)) (en_f cb115 rfl) ?_
    refine vw_q 10 rfl (by kernel_rfl) (by repeat (first | exact lle_l0 | exact LLe.refl _ | exact lle_none | refine lle_up ?_ rfl)) (fun _ _ hh hl => lo_assign (v := .int _ _) rfl) ?_
    refine vw_done (by kernel_rfl) (seqK_n (cw_ret (blkK_r (seqK_r (fnK_r (res1 rfl (rv_t (v := .int _ _) rfl)) (((HLe.refl _).trans hl11).trans hl28) ?_)))))
    refine congrArg (Value.int .i64) ?_
    unfold deedE
    repeat (first | rw [if_pos (by omega)] | rw [if_neg (by omega)] | rw [if_pos (by assumption)] | rw [if_neg (fun q => q (by assumption))])
    all_goals rfl
  have p31 := df h25
  refine cw_seq (cw_seq (cw_region (ol rfl (lo_eql rfl rfl) (oab rfl rfl (ow_nil ?_)))))
  refine seqK_n (cw_cond rfl (fun h32 => ?_) (fun h32 => ?_))
  · have p33 := dt h32
    refine cw_skip (seqK_n (cw_cond_t rfl h32 (cw_seq (cw_region (ol rfl (lo_fieldAddr rfl fl60_4) ?_)))))
    refine ol rfl (lo_loadA (i := 0) (vs := [_, _, _, _, _, _]) rfl ag58 sz58 rfl rfl rfl) (ow1 (op1_alloc 1 rfl zr58 (fun b34 => ?_)))
    refine ow1 (op1_storeAll (i := 1) (vs := [_, _, _, _, _, _]) rfl rfl rfl sz58 rfl rfl rfl ?_)
    refine ow_nil (seqK_n (cw_seq (cw_anyL mixd (vw_q 0 rfl (by kernel_rfl) (by repeat (first | exact lle_l0 | exact LLe.refl _ | exact lle_none | refine lle_up ?_ rfl)) (fun _ _ hh hl => lo_fieldAddr rfl fl58_0) ?_))))
    refine vw_q 1 rfl (by kernel_rfl) (by repeat (first | exact lle_l0 | exact LLe.refl _ | exact lle_none | refine lle_up ?_ rfl)) (fun _ _ hh hl => lo_load1 (i := 1) (v := str _) rfl ag9 (hl _ _ rfl) rfl) ?_
    refine vw_qc 2 rfl (by kernel_rfl) (by repeat (first | exact lle_l0 | exact LLe.refl _ | exact lle_none | refine lle_up ?_ rfl)) (words_Name _ d.bind.shop (by first | omega | decide | (simp; done))) (en_f cb116 rfl) ?_
    refine vw_q 3 rfl (by kernel_rfl) (by repeat (first | exact lle_l0 | exact LLe.refl _ | exact lle_none | refine lle_up ?_ rfl)) (fun _ _ hh hl => lo_fieldAddr rfl fl58_1) ?_
    refine vw_q 4 rfl (by kernel_rfl) (by repeat (first | exact lle_l0 | exact LLe.refl _ | exact lle_none | refine lle_up ?_ rfl)) (fun _ _ hh hl => lo_load1 (i := 1) (v := str _) rfl ag9 (hl _ _ rfl) rfl) ?_
    refine vw_qc 5 rfl (by kernel_rfl) (by repeat (first | exact lle_l0 | exact LLe.refl _ | exact lle_none | refine lle_up ?_ rfl)) (words_Name _ d.bind.to (by first | omega | decide | (simp; done))) (en_f cb116 rfl) ?_
    refine vw_q 6 rfl (by kernel_rfl) (by repeat (first | exact lle_l0 | exact LLe.refl _ | exact lle_none | refine lle_up ?_ rfl)) (fun _ _ hh hl => lo_fieldAddr rfl fl58_3) ?_
    refine vw_q 7 rfl (by kernel_rfl) (by repeat (first | exact lle_l0 | exact LLe.refl _ | exact lle_none | refine lle_up ?_ rfl)) (fun _ _ hh hl => lo_load1 (i := 1) (v := str _) rfl ag9 (hl _ _ rfl) rfl) ?_
    refine vw_q 8 rfl (by kernel_rfl) (by repeat (first | exact lle_l0 | exact LLe.refl _ | exact lle_none | refine lle_up ?_ rfl)) (fun _ _ hh hl => lo_len_str rfl Tryz.underlying9) ?_
    refine vw_q 9 rfl (by kernel_rfl) (by repeat (first | exact lle_l0 | exact LLe.refl _ | exact lle_none | refine lle_up ?_ rfl)) (fun _ _ hh hl => lo_gtr rfl rfl) ?_
    refine vw_qc 10 rfl (by kernel_rfl) (by repeat (first | exact lle_l0 | exact LLe.refl _ | exact lle_none | refine lle_up ?_ rfl)) (deed_bound _ (decide (64 < (d.bind.key.length : Int))) 5 (by omega)) (en_f cb117 rfl) ?_
    refine vw_q 11 rfl (by kernel_rfl) (by repeat (first | exact lle_l0 | exact LLe.refl _ | exact lle_none | refine lle_up ?_ rfl)) (fun _ _ hh hl => lo_fieldAddr rfl fl58_4) ?_
    refine vw_q 12 rfl (by kernel_rfl) (by repeat (first | exact lle_l0 | exact LLe.refl _ | exact lle_none | refine lle_up ?_ rfl)) (fun _ _ hh hl => lo_load1 (i := 1) (v := .slice _ _ _) rfl ag26 (hl _ _ rfl) rfl) ?_
    refine vw_qc 13 rfl (by kernel_rfl) (by repeat (first | exact lle_l0 | exact LLe.refl _ | exact lle_none | refine lle_up ?_ rfl)) (head_Check _ d_bind_want_a d.bind.want.length d_bind_want_c d.bind.want (d_bind_want_h.mono ((HLe.refl _).trans hl11) (fun _ _ h => h)) (by first | omega | (simp <;> omega))) (en_f cb119 rfl) ?_
    refine vw_e 14 rfl (by kernel_rfl) (op1_bslice (cs := [_, _, _, _]) 2 rfl Tryz.underlying256 sz39 zx39 rfl ⟨rfl, rfl, ⟨rfl, rfl, ⟨rfl, rfl, ⟨rfl, rfl, trivial⟩⟩⟩⟩ rfl rfl (by decide) (fun b35 => ?_))
    refine ⟨⟨(.refl _), (by repeat (first | exact lle_l0 | exact LLe.refl _ | exact lle_none | refine lle_up ?_ rfl))⟩, ?_⟩
    refine vw_giveO 2 rfl (by repeat (first | exact lle_l0 | exact LLe.refl _ | exact lle_none | refine lle_up ?_ rfl)) (by kernel_rfl) (fun _ hl36 hg37 => ?_)
    have hs38 := slh_bx (k := 1) (H := _) (enc := (fun z => [.int .i64 z])) (wf := (fun _ => True)) [nameE d.bind.shop, nameE d.bind.to, boundE (decide (64 < (d.bind.key.length : Int))) 5, headE d.bind.want] (fun _ => rfl) (hg37 _ _ rfl) rfl rfl (Nat.le_refl _) (fun _ _ => trivial)
    refine vw_qc 15 rfl (by kernel_rfl) (by repeat (first | exact lle_l0 | exact LLe.refl _ | exact lle_none | refine lle_up ?_ rfl)) (deed_first _ (some ⟨b35, 0, none⟩) 4 4 [nameE d.bind.shop, nameE d.bind.to, boundE (decide (64 < (d.bind.key.length : Int))) 5, headE d.bind.want] hs38 (by first | omega | (simp; done) | decide)) (en_f cb115 rfl) ?_
    refine vw_q 16 rfl (by kernel_rfl) (by repeat (first | exact lle_l0 | exact LLe.refl _ | exact lle_none | refine lle_up ?_ rfl)) (fun _ _ hh hl => lo_assign (v := .int _ _) rfl) ?_
    refine vw_done (by kernel_rfl) (seqK_n (cw_ret (blkK_r (seqK_r (fnK_r (res1 rfl (rv_t (v := .int _ _) rfl)) (((HLe.refl _).trans hl11).trans hl36) ?_)))))
    refine congrArg (Value.int .i64) ?_
    unfold deedE
    repeat (first | rw [if_pos (by omega)] | rw [if_neg (by omega)] | rw [if_pos (by assumption)] | rw [if_neg (fun q => q (by assumption))])
    all_goals rfl
  have p39 := df h32
  refine cw_region (ol rfl (lo_eql rfl rfl) (oab rfl rfl (ow_nil (seqK_n (cw_cond rfl (fun h40 => ?_) (fun h40 => ?_))))))
  · have p41 := dt h40
    refine cw_seq (cw_region (ol rfl (lo_fieldAddr rfl fl60_4) (ol rfl (lo_loadA (i := 0) (vs := [_, _, _, _, _, _]) rfl ag58 sz58 rfl rfl rfl) (ow1 (op1_alloc 1 rfl zr58 (fun b42 => ?_))))))
    refine ow1 (op1_storeAll (i := 1) (vs := [_, _, _, _, _, _]) rfl rfl rfl sz58 rfl rfl rfl ?_)
    refine ow_nil (seqK_n (cw_seq (cw_anyL mixd (vw_q 0 rfl (by kernel_rfl) (by repeat (first | exact lle_l0 | exact LLe.refl _ | exact lle_none | refine lle_up ?_ rfl)) (fun _ _ hh hl => lo_fieldAddr rfl fl58_0) ?_))))
    refine vw_q 1 rfl (by kernel_rfl) (by repeat (first | exact lle_l0 | exact LLe.refl _ | exact lle_none | refine lle_up ?_ rfl)) (fun _ _ hh hl => lo_load1 (i := 1) (v := str _) rfl ag9 (hl _ _ rfl) rfl) ?_
    refine vw_qc 2 rfl (by kernel_rfl) (by repeat (first | exact lle_l0 | exact LLe.refl _ | exact lle_none | refine lle_up ?_ rfl)) (words_Name _ d.bind.shop (by first | omega | decide | (simp; done))) (en_f cb116 rfl) ?_
    refine vw_q 3 rfl (by kernel_rfl) (by repeat (first | exact lle_l0 | exact LLe.refl _ | exact lle_none | refine lle_up ?_ rfl)) (fun _ _ hh hl => lo_fieldAddr rfl fl58_1) ?_
    refine vw_q 4 rfl (by kernel_rfl) (by repeat (first | exact lle_l0 | exact LLe.refl _ | exact lle_none | refine lle_up ?_ rfl)) (fun _ _ hh hl => lo_load1 (i := 1) (v := str _) rfl ag9 (hl _ _ rfl) rfl) ?_
    refine vw_qc 5 rfl (by kernel_rfl) (by repeat (first | exact lle_l0 | exact LLe.refl _ | exact lle_none | refine lle_up ?_ rfl)) (words_Name _ d.bind.to (by first | omega | decide | (simp; done))) (en_f cb116 rfl) ?_
    refine vw_q 6 rfl (by kernel_rfl) (by repeat (first | exact lle_l0 | exact LLe.refl _ | exact lle_none | refine lle_up ?_ rfl)) (fun _ _ hh hl => lo_fieldAddr rfl fl58_3) ?_
    refine vw_q 7 rfl (by kernel_rfl) (by repeat (first | exact lle_l0 | exact LLe.refl _ | exact lle_none | refine lle_up ?_ rfl)) (fun _ _ hh hl => lo_load1 (i := 1) (v := str _) rfl ag9 (hl _ _ rfl) rfl) ?_
    refine vw_q 8 rfl (by kernel_rfl) (by repeat (first | exact lle_l0 | exact LLe.refl _ | exact lle_none | refine lle_up ?_ rfl)) (fun _ _ hh hl => lo_len_str rfl Tryz.underlying9) ?_
    refine vw_q 9 rfl (by kernel_rfl) (by repeat (first | exact lle_l0 | exact LLe.refl _ | exact lle_none | refine lle_up ?_ rfl)) (fun _ _ hh hl => lo_gtr rfl rfl) ?_
    refine vw_qc 10 rfl (by kernel_rfl) (by repeat (first | exact lle_l0 | exact LLe.refl _ | exact lle_none | refine lle_up ?_ rfl)) (deed_bound _ (decide (64 < (d.bind.key.length : Int))) 5 (by omega)) (en_f cb117 rfl) ?_
    refine vw_q 11 rfl (by kernel_rfl) (by repeat (first | exact lle_l0 | exact LLe.refl _ | exact lle_none | refine lle_up ?_ rfl)) (fun _ _ hh hl => lo_fieldAddr rfl fl58_4) ?_
    refine vw_q 12 rfl (by kernel_rfl) (by repeat (first | exact lle_l0 | exact LLe.refl _ | exact lle_none | refine lle_up ?_ rfl)) (fun _ _ hh hl => lo_load1 (i := 1) (v := .slice _ _ _) rfl ag26 (hl _ _ rfl) rfl) ?_
    refine vw_qc 13 rfl (by kernel_rfl) (by repeat (first | exact lle_l0 | exact LLe.refl _ | exact lle_none | refine lle_up ?_ rfl)) (head_Check _ d_bind_want_a d.bind.want.length d_bind_want_c d.bind.want (d_bind_want_h.mono ((HLe.refl _).trans hl11) (fun _ _ h => h)) (by first | omega | (simp <;> omega))) (en_f cb119 rfl) ?_
    refine vw_e 14 rfl (by kernel_rfl) (op1_bslice (cs := [_, _, _, _]) 2 rfl Tryz.underlying256 sz39 zx39 rfl ⟨rfl, rfl, ⟨rfl, rfl, ⟨rfl, rfl, ⟨rfl, rfl, trivial⟩⟩⟩⟩ rfl rfl (by decide) (fun b43 => ?_))
    refine ⟨⟨(.refl _), (by repeat (first | exact lle_l0 | exact LLe.refl _ | exact lle_none | refine lle_up ?_ rfl))⟩, ?_⟩
    refine vw_giveO 2 rfl (by repeat (first | exact lle_l0 | exact LLe.refl _ | exact lle_none | refine lle_up ?_ rfl)) (by kernel_rfl) (fun _ hl44 hg45 => ?_)
    have hs46 := slh_bx (k := 1) (H := _) (enc := (fun z => [.int .i64 z])) (wf := (fun _ => True)) [nameE d.bind.shop, nameE d.bind.to, boundE (decide (64 < (d.bind.key.length : Int))) 5, headE d.bind.want] (fun _ => rfl) (hg45 _ _ rfl) rfl rfl (Nat.le_refl _) (fun _ _ => trivial)
    refine vw_qc 15 rfl (by kernel_rfl) (by repeat (first | exact lle_l0 | exact LLe.refl _ | exact lle_none | refine lle_up ?_ rfl)) (deed_first _ (some ⟨b43, 0, none⟩) 4 4 [nameE d.bind.shop, nameE d.bind.to, boundE (decide (64 < (d.bind.key.length : Int))) 5, headE d.bind.want] hs46 (by first | omega | (simp; done) | decide)) (en_f cb115 rfl) ?_
    refine vw_q 16 rfl (by kernel_rfl) (by repeat (first | exact lle_l0 | exact LLe.refl _ | exact lle_none | refine lle_up ?_ rfl)) (fun _ _ hh hl => lo_assign (v := .int _ _) rfl) ?_
    refine vw_done (by kernel_rfl) (seqK_n (cw_ret (blkK_r (seqK_r (fnK_r (res1 rfl (rv_t (v := .int _ _) rfl)) (((HLe.refl _).trans hl11).trans hl44) ?_)))))
    refine congrArg (Value.int .i64) ?_
    unfold deedE
    repeat (first | rw [if_pos (by omega)] | rw [if_neg (by omega)] | rw [if_pos (by assumption)] | rw [if_neg (fun q => q (by assumption))])
    all_goals rfl
  have p47 := df h40
  refine cw_seq (cw_seq (cw_region (ol rfl (lo_eql rfl rfl) (oab rfl rfl (ow_nil ?_)))))
  refine seqK_n (cw_cond rfl (fun h48 => ?_) (fun h48 => ?_))
  · have p49 := dt h48
    refine cw_skip (seqK_n (cw_cond_t rfl h48 (cw_seq (cw_region (ol rfl (lo_fieldAddr rfl fl60_11) ?_)))))
    refine ol rfl (lo_loadA (i := 0) (vs := [_, _, _, _, _, _, _]) rfl ag28 sz28 rfl rfl rfl) (ow1 (op1_pr (mail_Check _ d.mail d_mail_head_a d_mail_head_c (d_mail_head_h.mono ((HLe.refl _).trans hl11) (fun _ _ h => h)) (by simp only [Mail.wf]; first | omega | (simp; done) | (simp; omega)) (hML.mono ((HLe.refl _).trans hl11))) (en_f cb120 rfl) rfl ?_))
    have := mailC_r d.mail
    have hmo49 := fun h => mailC_ok (m := d.mail) h
    refine oai rfl rfl (ow_nil (seqK_n (cw_ret (blkK_r (seqK_r ?_)))))
    refine fnK_r (res1 rfl (rv_t (v := .int _ _) rfl)) ((HLe.refl _).trans hl11) (congrArg (Value.int .i64) ?_)
    unfold deedE
    repeat (first | rw [if_pos (by omega)] | rw [if_neg (by omega)] | rw [if_pos (by assumption)] | rw [if_neg (fun q => q (by assumption))])
    all_goals rfl
  have p50 := df h48
  refine cw_region (ol rfl (lo_eql rfl rfl) (oab rfl rfl (ow_nil (seqK_n (cw_cond rfl (fun h51 => ?_) (fun h51 => ?_))))))
  · have p52 := dt h51
    refine cw_seq (cw_region (ol rfl (lo_fieldAddr rfl fl60_11) (ol rfl (lo_loadA (i := 0) (vs := [_, _, _, _, _, _, _]) rfl ag28 sz28 rfl rfl rfl) (ow1 (op1_pr (mail_Check _ d.mail d_mail_head_a d_mail_head_c (d_mail_head_h.mono ((HLe.refl _).trans hl11) (fun _ _ h => h)) (by simp only [Mail.wf]; first | omega | (simp; done) | (simp; omega)) (hML.mono ((HLe.refl _).trans hl11))) (en_f cb120 rfl) rfl ?_)))))
    have := mailC_r d.mail
    have hmo52 := fun h => mailC_ok (m := d.mail) h
    refine oai rfl rfl (ow_nil (seqK_n (cw_ret (blkK_r (seqK_r ?_)))))
    refine fnK_r (res1 rfl (rv_t (v := .int _ _) rfl)) ((HLe.refl _).trans hl11) (congrArg (Value.int .i64) ?_)
    unfold deedE
    repeat (first | rw [if_pos (by omega)] | rw [if_neg (by omega)] | rw [if_pos (by assumption)] | rw [if_neg (fun q => q (by assumption))])
    all_goals rfl
  have p53 := df h51
  refine cw_seq (cw_seq (cw_region (ol rfl (lo_eql rfl rfl) (oab rfl rfl (ow_nil ?_)))))
  refine seqK_n (cw_cond rfl (fun h54 => ?_) (fun h54 => ?_))
  · have p55 := dt h54
    refine cw_skip (seqK_n (cw_cond_t rfl h54 (cw_seq (cw_region (oai rfl rfl ?_)))))
    refine ow_nil (seqK_n (cw_ret (blkK_r (seqK_r (fnK_r (res1 rfl (rv_t (v := .int _ _) rfl)) ((HLe.refl _).trans hl11) ?_)))))
    refine congrArg (Value.int .i64) ?_
    unfold deedE
    repeat (first | rw [if_pos (by omega)] | rw [if_neg (by omega)] | rw [if_pos (by assumption)] | rw [if_neg (fun q => q (by assumption))])
    all_goals rfl
  have p56 := df h54
  refine cw_region (ol rfl (lo_eql rfl rfl) (oab rfl rfl (ow_nil (seqK_n (cw_cond rfl (fun h57 => ?_) (fun h57 => ?_))))))
  · have p58 := dt h57
    refine cw_seq (cw_region (oai rfl rfl (ow_nil (seqK_n (cw_ret ?_)))))
    refine blkK_r (seqK_r (fnK_r (res1 rfl (rv_t (v := .int _ _) rfl)) ((HLe.refl _).trans hl11) (congrArg (Value.int .i64) ?_)))
    unfold deedE
    repeat (first | rw [if_pos (by omega)] | rw [if_neg (by omega)] | rw [if_pos (by assumption)] | rw [if_neg (fun q => q (by assumption))])
    all_goals rfl
  have p59 := df h57
  refine cw_seq (cw_region (ol rfl (lo_eql rfl rfl) (oab rfl rfl (ow_nil (seqK_n ?_)))))
  refine cw_cond rfl (fun h60 => ?_) (fun h60 => ?_)
  · have p61 := dt h60
    refine cw_seq (cw_region (ol rfl (lo_fieldAddr rfl fl60_12) (ol rfl (lo_load1 (i := 0) (v := str _) rfl ag9 rfl rfl) (ol rfl (lo_len_str rfl Tryz.underlying9) (ol rfl (lo_gtr rfl rfl) ?_)))))
    refine ow1 (op1_pr (deed_bound _ (decide (64 < (d.text.length : Int))) 5 (by omega)) (en_f cb117 rfl) rfl ?_)
    refine oai rfl rfl (ow_nil (seqK_n (cw_ret (blkK_r (seqK_r ?_)))))
    refine fnK_r (res1 rfl (rv_t (v := .int _ _) rfl)) ((HLe.refl _).trans hl11) (congrArg (Value.int .i64) ?_)
    unfold deedE
    repeat (first | rw [if_pos (by omega)] | rw [if_neg (by omega)] | rw [if_pos (by assumption)] | rw [if_neg (fun q => q (by assumption))])
    all_goals rfl
  have p62 := df h60
  refine cw_skip (blkK_n (seqK_n (cw_seq (cw_anyL mixd (vw_q 0 rfl (by kernel_rfl) (by repeat (first | exact lle_l0 | exact LLe.refl _ | exact lle_none | refine lle_up ?_ rfl)) (fun _ _ hh hl => lo_fieldAddr rfl fl60_5) ?_)))))
  refine vw_q 1 rfl (by kernel_rfl) (by repeat (first | exact lle_l0 | exact LLe.refl _ | exact lle_none | refine lle_up ?_ rfl)) (fun _ _ hh hl => lo_load1 (i := 0) (v := str _) rfl ag9 (hl _ _ rfl) rfl) ?_
  refine vw_qc 2 rfl (by kernel_rfl) (by repeat (first | exact lle_l0 | exact LLe.refl _ | exact lle_none | refine lle_up ?_ rfl)) (words_Name _ d.name (by first | omega | decide | (simp; done))) (en_f cb116 rfl) ?_
  refine vw_q 3 rfl (by kernel_rfl) (by repeat (first | exact lle_l0 | exact LLe.refl _ | exact lle_none | refine lle_up ?_ rfl)) (fun _ _ hh hl => lo_fieldAddr rfl fl60_7) ?_
  refine vw_q 4 rfl (by kernel_rfl) (by repeat (first | exact lle_l0 | exact LLe.refl _ | exact lle_none | refine lle_up ?_ rfl)) (fun _ _ hh hl => lo_load1 (i := 0) (v := .int _ _) rfl ag5 (hl _ _ rfl) rfl) ?_
  refine vw_q 5 rfl (by kernel_rfl) (by repeat (first | exact lle_l0 | exact LLe.refl _ | exact lle_none | refine lle_up ?_ rfl)) (fun _ _ hh hl => lo_gtr rfl rfl) ?_
  refine vw_qc 6 rfl (by kernel_rfl) (by repeat (first | exact lle_l0 | exact LLe.refl _ | exact lle_none | refine lle_up ?_ rfl)) (deed_bound _ (decide (2 < d.how)) 7 (by omega)) (en_f cb117 rfl) ?_
  refine vw_e 7 rfl (by kernel_rfl) (op1_bslice (cs := [_, _]) 1 rfl Tryz.underlying256 sz39 zx39 rfl ⟨rfl, rfl, ⟨rfl, rfl, trivial⟩⟩ rfl rfl (by decide) (fun b63 => ?_))
  refine ⟨⟨(.refl _), (by repeat (first | exact lle_l0 | exact LLe.refl _ | exact lle_none | refine lle_up ?_ rfl))⟩, ?_⟩
  refine vw_giveO 1 rfl (by repeat (first | exact lle_l0 | exact LLe.refl _ | exact lle_none | refine lle_up ?_ rfl)) (by kernel_rfl) (fun _ hl64 hg65 => ?_)
  have hs66 := slh_bx (k := 1) (H := _) (enc := (fun z => [.int .i64 z])) (wf := (fun _ => True)) [nameE d.name, boundE (decide (2 < d.how)) 7] (fun _ => rfl) (hg65 _ _ rfl) rfl rfl (Nat.le_refl _) (fun _ _ => trivial)
  refine vw_qc 8 rfl (by kernel_rfl) (by repeat (first | exact lle_l0 | exact LLe.refl _ | exact lle_none | refine lle_up ?_ rfl)) (deed_first _ (some ⟨b63, 0, none⟩) 2 2 [nameE d.name, boundE (decide (2 < d.how)) 7] hs66 (by first | omega | (simp; done) | decide)) (en_f cb115 rfl) ?_
  refine vw_q 9 rfl (by kernel_rfl) (by repeat (first | exact lle_l0 | exact LLe.refl _ | exact lle_none | refine lle_up ?_ rfl)) (fun _ _ hh hl => lo_assign (v := .int _ _) rfl) ?_
  refine vw_done (by kernel_rfl) (seqK_n (cw_ret (fnK_r (res1 rfl (rv_t (v := .int _ _) rfl)) (((HLe.refl _).trans hl11).trans hl64) (congrArg (Value.int .i64) ?_))))
  unfold deedE
  repeat (first | rw [if_pos (by omega)] | rw [if_neg (by omega)] | rw [if_pos (by assumption)] | rw [if_neg (fun q => q (by assumption))])
  all_goals rfl
end Go.SW
set_option linter.unusedVariables false
set_option maxRecDepth 100000
set_option maxHeartbeats 4000000
namespace Go.SW
open Go.Proofs
theorem by60 : By Tryz.prog 60 344 := by_of (by kernel_rfl)
theorem clone_Pair (H : Hp) (s_a : Option Addr) (s_l s_c : Nat) (s : List Pair) (s_h : SlH pairE 4 H (.slice s_a s_l s_c) s) (hl : s.length ≤ 1000000) : Ph Tryz.prog 211 #[.slice s_a s_l s_c] H (fun v H' => ∃ (a1 : Option Addr) (c1 : Nat), v = .slice a1 s.length c1 ∧ SlH pairE 4 H' (.slice a1 s.length c1) s) := by
  refine ph_cw Tryz.func211 rfl Tryz.ntmps211 rfl (fun N => ?_)
  refine cw_seq (cw_region (ol rfl (lo_assign (v := .slice _ _ _) rfl) (ow_nil (seqK_n (cw_seq ?_)))))
  refine cw_seq (cw_region (ol rfl (lo_move (v := .slice _ _ _) rfl) (ol rfl (lo_sleq_nil rfl rfl Tryz.underlying26) (ow_nil (seqK_n ?_)))))
  refine cw_cond rfl (fun h1 => ?_) (fun h1 => ?_)
  · refine cw_seq (cw_region (ol rfl (lo_assign (v := .slice _ _ _) rfl) (ow_nil (seqK_n (cw_ret ?_)))))
    refine seqK_r (fnK_r (res1 rfl (rv_t (v := .slice _ _ _) rfl)) (.refl _) ?_)
    obtain rfl : s_a = none := Option.isNone_iff_eq_none.1 (by assumption)
    rw [slh_none s_h]
    exact ⟨none, 0, rfl, slh_nil⟩
  refine cw_skip (seqK_n (cw_seq (cw_region (ow1 (op1_bslice (cs := []) 0 rfl Tryz.underlying26 sz244 zx244 rfl trivial rfl rfl (by decide) (fun b2 => ?_))))))
  refine ol rfl (lo_move (v := .slice _ _ _) rfl) (ow1 (op1_app 0 rfl rfl Tryz.underlying26 Tryz.underlying26 rfl sz244 by244 (by decide) zr244 (ownV_bx rfl) (src_slh (enc := Pair.cells) (wf := Pair.wf) (fun _ => rfl) s_h) (one_flat (fun _ => rfl) _) rfl (by omega) rfl (fun v3 en4 ho5 => ?_)))
  have ho6 := own_cat0 (enc := Pair.cells) s ho5
  refine ol rfl (lo_assign rfl) (ow_nil (seqK_n (cw_giveO 0 rfl (fun _ hl7 hg8 => ?_))))
  have hs9 := slh_own (enc := Pair.cells) (wf := Pair.wf) (fun _ => rfl) ho6 (slh_wf s_h) hg8
  obtain ⟨⟨a10, c11, rfl, -⟩, -⟩ := id hs9
  refine cw_ret (fnK_r (res1 rfl (rv_t (v := .slice _ _ _) rfl)) ((HLe.refl _).trans hl7) ?_)
  exact ⟨_, _, rfl, hs9⟩
end Go.SW
set_option linter.unusedVariables false
set_option maxRecDepth 100000
set_option maxHeartbeats 4000000
namespace Go.SW
open Go.Proofs
theorem cb111 : Callable Tryz.prog 111 := callable_of Tryz.func111 (by kernel_rfl) (by kernel_rfl)
theorem cb34 : Callable Tryz.prog 34 := callable_of Tryz.func34 (by kernel_rfl) (by kernel_rfl)
theorem fl56_1 : Fld Tryz.prog 56 1 1 := fun b o w => by kernel_rfl
theorem fl56_2 : Fld Tryz.prog 56 2 2 := fun b o w => by kernel_rfl
theorem deed_Bytes (H : Hp) (d : DeedR) (d_bind_want_a : Option Addr) (d_bind_want_c : Nat) (d_bind_want_h : SlH pairE 4 H (.slice d_bind_want_a d.bind.want.length d_bind_want_c) d.bind.want) (d_mail_head_a : Option Addr) (d_mail_head_c : Nat) (d_mail_head_h : SlH pairE 4 H (.slice d_mail_head_a d.mail.head.length d_mail_head_c) d.mail.head) (d_w : DeedR.wf d) (hML : GInt H 2) : Pr Tryz.prog 33 #[.agg (DeedR.cells d d_bind_want_a d_bind_want_c d_mail_head_a d_mail_head_c).toArray] H (.tuple #[str (deedBytes d), .int .i64 (deedE d)]) := by
  refine pr_cw Tryz.func33 rfl Tryz.ntmps33 rfl (fun N => ?_)
  have d_w' := d_w
  simp only [DeedR.wf, ShopR.wf, QueueR.wf, BindR.wf, Mail.wf] at d_w'
  refine cw_seq (cw_region (ow1 (op1_box (cs := [_, _, _, _, _, _, _, _, _, _, _, _, _, _, _, _, _, _, _, _, _, _, _, _, _, _, _, _, _]) 0 rfl rfl (fun b1 => ?_))))
  refine ol rfl (lo_assign (v := str _) rfl) (oai rfl rfl (ow_nil (seqK_n (cw_seq (cw_seq ?_)))))
  refine cw_region (ol rfl (lo_loadA (i := 0) (vs := [_, _, _, _, _, _, _, _, _, _, _, _, _, _, _, _, _, _, _, _, _, _, _, _, _, _, _, _, _]) rfl ag60 sz60 rfl rfl rfl) ?_)
  refine ow1 (op1_pr (deed_Check _ d d_bind_want_a d_bind_want_c d_bind_want_h d_mail_head_a d_mail_head_c d_mail_head_h d_w hML) (en_f cb34 rfl) rfl ?_)
  have := deedE_r d
  refine oai rfl rfl (ow_nil (seqK_n (cw_seq (cw_region (omi rfl rfl ?_)))))
  refine ol rfl (lo_neq rfl rfl) (ow_nil (seqK_n (cw_cond rfl (fun h2 => ?_) (fun h2 => ?_))))
  · have h3 := not_t h2
    have p4 := df h3
    refine cw_seq (cw_region (omi rfl rfl (ol rfl (lo_assign (v := str _) rfl) (oai rfl rfl (ow_nil ?_)))))
    refine seqK_n (cw_ret (seqK_r (fnK_r (res2 rfl (rv_t (v := str _) rfl) (rv_t (v := .int _ _) rfl)) (.refl _) ?_)))
    have e : deedBytes d = [] := by
      unfold deedBytes
      first
        | (rw [if_neg (by assumption)]; done)
        | (rw [if_pos (by assumption)]; unfold deedOut; (repeat (first | rw [if_pos (by omega)] | rw [if_neg (by omega)] | rw [if_pos (by assumption)] | rw [if_neg (by assumption)] | rw [if_neg (fun q => q (by assumption))])); first | done | rfl)
    rw [e]
    try (rw [show deedE d = 0 by assumption])
  have h5 := not_f h2
  have p6 := dt h5
  have hdk := deedE_ok (d := d) (by omega) p6
  obtain ⟨dk1, dk2, dk3, dk4, dk5, dk6, dk7, dk8, dk9, dk10, dk11, dk12, dk13, dk14, dk15, dk16, dk17, dk18, dk19⟩ := hdk
  refine cw_skip (seqK_n (cw_seq (cw_anyL mixd (vw_q 0 rfl (by kernel_rfl) (by repeat (first | exact lle_l0 | exact LLe.refl _ | exact lle_none | refine lle_up ?_ rfl)) (fun _ _ hh hl => lo_build (v := .agg #[_, _]) rfl (bd176)) ?_))))
  refine vw_q 1 rfl (by kernel_rfl) (by repeat (first | exact lle_l0 | exact LLe.refl _ | exact lle_none | refine lle_up ?_ rfl)) (fun _ _ hh hl => lo_fieldAddr rfl fl60_0) ?_
  refine vw_q 2 rfl (by kernel_rfl) (by repeat (first | exact lle_l0 | exact LLe.refl _ | exact lle_none | refine lle_up ?_ rfl)) (fun _ _ hh hl => lo_load1 (i := 0) (v := .int _ _) rfl ag5 (hl _ _ rfl) rfl) ?_
  refine vw_q 3 rfl (by kernel_rfl) (by repeat (first | exact lle_l0 | exact LLe.refl _ | exact lle_none | refine lle_up ?_ rfl)) (fun _ _ hh hl => lo_conv_in rfl (by rw [Tryz.underlying5]; rfl) Tryz.underlying25 (rg_u64 (by omega))) ?_
  have nl0 : (⟨[], 0⟩ : Out).s.length = 0 := rfl
  have := outNum_len (⟨[], 0⟩ : Out) d.kind 1
  refine vw_qc 4 rfl (by kernel_rfl) (by repeat (first | exact lle_l0 | exact LLe.refl _ | exact lle_none | refine lle_up ?_ rfl)) (out_Num _ (⟨[], 0⟩ : Out) d.kind (by omega) 1 (by omega) (by first | omega | (have := hrl (by assumption); omega) | (simp [outNum, outRaw, numB_len, numK] <;> omega) | (have := hrl (by assumption); simp [outNum, outRaw, numB_len, numK] <;> omega))) (en_f cb107 rfl) ?_
  refine vw_q 5 rfl (by kernel_rfl) (by repeat (first | exact lle_l0 | exact LLe.refl _ | exact lle_none | refine lle_up ?_ rfl)) (fun _ _ hh hl => lo_fieldAddr rfl fl60_1) ?_
  refine vw_q 6 rfl (by kernel_rfl) (by repeat (first | exact lle_l0 | exact LLe.refl _ | exact lle_none | refine lle_up ?_ rfl)) (fun _ _ hh hl => lo_load1 (i := 0) (v := .int _ _) rfl ag25 (hl _ _ rfl) rfl) ?_
  have := outNum_len (outNum (⟨[], 0⟩ : Out) d.kind 1) d.tick 8
  refine vw_qc 7 rfl (by kernel_rfl) (by repeat (first | exact lle_l0 | exact LLe.refl _ | exact lle_none | refine lle_up ?_ rfl)) (out_Num _ (outNum (⟨[], 0⟩ : Out) d.kind 1) d.tick (by omega) 8 (by omega) (by first | omega | (have := hrl (by assumption); omega) | (simp [outNum, outRaw, numB_len, numK] <;> omega) | (have := hrl (by assumption); simp [outNum, outRaw, numB_len, numK] <;> omega))) (en_f cb107 rfl) ?_
  refine vw_e 8 rfl (by kernel_rfl) (op1_alloc 1 rfl zr176 (fun b7 => ?_))
  refine ⟨⟨(.refl _), (by repeat (first | exact lle_l0 | exact LLe.refl _ | exact lle_none | refine lle_up ?_ rfl))⟩, ?_⟩
  refine vw_t 9 rfl (by kernel_rfl) (by kernel_rfl) (op1_storeAll (i := 1) (vs := [_, _]) rfl rfl rfl sz176 rfl rfl rfl ?_)
  refine vw_done (by kernel_rfl) (seqK_n (cw_seq (cw_region (ol rfl (lo_fieldAddr rfl fl60_11) (ol rfl (lo_loadA (i := 0) (vs := [_, _, _, _, _, _, _]) rfl ag28 sz28 rfl rfl rfl) ?_)))))
  refine ow1 (op1_pr (mail_Bytes _ d.mail d_mail_head_a d_mail_head_c d_mail_head_h (by simp only [Mail.wf]; first | omega | (simp; done) | (simp; omega)) hML) (en_f cb108 rfl) rfl ?_)
  have := mailBytes_len d.mail
  refine ol rfl (lo_move (v := .tuple #[_, _]) rfl) (ol rfl (lo_extract (v := str _) rfl rfl) (ol rfl (lo_extract (v := .int _ _) rfl rfl) (ol rfl (lo_assign (v := str _) rfl) (oai rfl rfl (ow_nil ?_)))))
  refine seqK_n (cw_seq (cw_seq (cw_region (ol rfl (lo_fieldAddr rfl fl60_0) (ol rfl (lo_load1 (i := 0) (v := .int _ _) rfl ag5 rfl rfl) ?_)))))
  refine ow_nil (seqK_n (cw_block (cw_seq (cw_region (ol rfl (lo_eql rfl rfl) ?_)))))
  refine oab rfl rfl (ow_nil (seqK_n (cw_cond rfl (fun h8 => ?_) (fun h8 => ?_))))
  · have p9 := dt h8
    refine cw_anyL mixd (vw_q 0 rfl (by kernel_rfl) (by repeat (first | exact lle_l0 | exact LLe.refl _ | exact lle_none | refine lle_up ?_ rfl)) (fun _ _ hh hl => lo_loadA (i := 1) (vs := [_, _]) rfl ag176 sz176 (hl _ _ rfl) rfl rfl) ?_)
    refine vw_q 1 rfl (by kernel_rfl) (by repeat (first | exact lle_l0 | exact LLe.refl _ | exact lle_none | refine lle_up ?_ rfl)) (fun _ _ hh hl => lo_fieldAddr rfl fl60_2) ?_
    refine vw_q 2 rfl (by kernel_rfl) (by repeat (first | exact lle_l0 | exact LLe.refl _ | exact lle_none | refine lle_up ?_ rfl)) (fun _ _ hh hl => lo_fieldAddr rfl fl54_0) ?_
    refine vw_q 3 rfl (by kernel_rfl) (by repeat (first | exact lle_l0 | exact LLe.refl _ | exact lle_none | refine lle_up ?_ rfl)) (fun _ _ hh hl => lo_load1 (i := 0) (v := str _) rfl ag9 (hl _ _ rfl) rfl) ?_
    have := outText_len (outNum (outNum (⟨[], 0⟩ : Out) d.kind 1) d.tick 8) d.shop.name
    refine vw_qc 4 rfl (by kernel_rfl) (by repeat (first | exact lle_l0 | exact LLe.refl _ | exact lle_none | refine lle_up ?_ rfl)) (out_Text _ (outNum (outNum (⟨[], 0⟩ : Out) d.kind 1) d.tick 8) d.shop.name (by first | omega | (have := hrl (by assumption); omega) | (simp [outNum, outRaw, numB_len, numK] <;> omega) | (have := hrl (by assumption); simp [outNum, outRaw, numB_len, numK] <;> omega))) (en_f cb109 rfl) ?_
    refine vw_q 5 rfl (by kernel_rfl) (by repeat (first | exact lle_l0 | exact LLe.refl _ | exact lle_none | refine lle_up ?_ rfl)) (fun _ _ hh hl => lo_fieldAddr rfl fl60_2) ?_
    refine vw_q 6 rfl (by kernel_rfl) (by repeat (first | exact lle_l0 | exact LLe.refl _ | exact lle_none | refine lle_up ?_ rfl)) (fun _ _ hh hl => lo_fieldAddr rfl fl54_1) ?_
    refine vw_q 7 rfl (by kernel_rfl) (by repeat (first | exact lle_l0 | exact LLe.refl _ | exact lle_none | refine lle_up ?_ rfl)) (fun _ _ hh hl => lo_load1 (i := 0) (v := .int _ _) rfl ag5 (hl _ _ rfl) rfl) ?_
    refine vw_q 8 rfl (by kernel_rfl) (by repeat (first | exact lle_l0 | exact LLe.refl _ | exact lle_none | refine lle_up ?_ rfl)) (fun _ _ hh hl => lo_conv_in rfl (by rw [Tryz.underlying5]; rfl) Tryz.underlying25 (rg_u64 (by omega))) ?_
    have := outNum_len (outText (outNum (outNum (⟨[], 0⟩ : Out) d.kind 1) d.tick 8) d.shop.name) d.shop.sort 1
    refine vw_qc 9 rfl (by kernel_rfl) (by repeat (first | exact lle_l0 | exact LLe.refl _ | exact lle_none | refine lle_up ?_ rfl)) (out_Num _ (outText (outNum (outNum (⟨[], 0⟩ : Out) d.kind 1) d.tick 8) d.shop.name) d.shop.sort (by omega) 1 (by omega) (by first | omega | (have := hrl (by assumption); omega) | (simp [outNum, outRaw, numB_len, numK] <;> omega) | (have := hrl (by assumption); simp [outNum, outRaw, numB_len, numK] <;> omega))) (en_f cb107 rfl) ?_
    refine vw_q 10 rfl (by kernel_rfl) (by repeat (first | exact lle_l0 | exact LLe.refl _ | exact lle_none | refine lle_up ?_ rfl)) (fun _ _ hh hl => lo_fieldAddr rfl fl60_2) ?_
    refine vw_q 11 rfl (by kernel_rfl) (by repeat (first | exact lle_l0 | exact LLe.refl _ | exact lle_none | refine lle_up ?_ rfl)) (fun _ _ hh hl => lo_fieldAddr rfl fl54_2) ?_
    refine vw_q 12 rfl (by kernel_rfl) (by repeat (first | exact lle_l0 | exact LLe.refl _ | exact lle_none | refine lle_up ?_ rfl)) (fun _ _ hh hl => lo_load1 (i := 0) (v := str _) rfl ag9 (hl _ _ rfl) rfl) ?_
    have := outText_len (outNum (outText (outNum (outNum (⟨[], 0⟩ : Out) d.kind 1) d.tick 8) d.shop.name) d.shop.sort 1) d.shop.to
    refine vw_qc 13 rfl (by kernel_rfl) (by repeat (first | exact lle_l0 | exact LLe.refl _ | exact lle_none | refine lle_up ?_ rfl)) (out_Text _ (outNum (outText (outNum (outNum (⟨[], 0⟩ : Out) d.kind 1) d.tick 8) d.shop.name) d.shop.sort 1) d.shop.to (by first | omega | (have := hrl (by assumption); omega) | (simp [outNum, outRaw, numB_len, numK] <;> omega) | (have := hrl (by assumption); simp [outNum, outRaw, numB_len, numK] <;> omega))) (en_f cb109 rfl) ?_
    refine vw_t 14 rfl (by kernel_rfl) (by kernel_rfl) (op1_storeAll (i := 1) (vs := [_, _]) rfl rfl rfl sz176 rfl rfl rfl ?_)
    refine vw_done (by kernel_rfl) (blkK_n (seqK_n (cw_seq (cw_region (ol rfl (lo_loadA (i := 1) (vs := [_, _]) rfl ag176 sz176 rfl rfl rfl) ?_)))))
    refine ow1 (op1_pr (out_String _ (outText (outNum (outText (outNum (outNum (⟨[], 0⟩ : Out) d.kind 1) d.tick 8) d.shop.name) d.shop.sort 1) d.shop.to)) (en_f cb113 rfl) rfl ?_)
    refine ol rfl (lo_assign (v := str _) rfl) (oai rfl rfl (ow_nil (seqK_n (cw_ret (fnK_r (res2 rfl (rv_t (v := str _) rfl) (rv_t (v := .int _ _) rfl)) (.refl _) ?_)))))
    have e : deedBytes d = (outText (outNum (outText (outNum (outNum (⟨[], 0⟩ : Out) d.kind 1) d.tick 8) d.shop.name) d.shop.sort 1) d.shop.to).s := by
      unfold deedBytes
      first
        | (rw [if_neg (by assumption)]; done)
        | (rw [if_pos (by assumption)]; unfold deedOut; (repeat (first | rw [if_pos (by omega)] | rw [if_neg (by omega)] | rw [if_pos (by assumption)] | rw [if_neg (by assumption)] | rw [if_neg (fun q => q (by assumption))])); first | done | rfl)
    rw [e]
    try (rw [show deedE d = 0 by assumption])
  have p10 := df h8
  refine cw_seq (cw_region (ol rfl (lo_eql rfl rfl) (oab rfl rfl (ow_nil (seqK_n ?_)))))
  refine cw_cond rfl (fun h11 => ?_) (fun h11 => ?_)
  · have p12 := dt h11
    refine cw_anyL mixd (vw_q 0 rfl (by kernel_rfl) (by repeat (first | exact lle_l0 | exact LLe.refl _ | exact lle_none | refine lle_up ?_ rfl)) (fun _ _ hh hl => lo_loadA (i := 1) (vs := [_, _]) rfl ag176 sz176 (hl _ _ rfl) rfl rfl) ?_)
    refine vw_q 1 rfl (by kernel_rfl) (by repeat (first | exact lle_l0 | exact LLe.refl _ | exact lle_none | refine lle_up ?_ rfl)) (fun _ _ hh hl => lo_fieldAddr rfl fl60_3) ?_
    refine vw_q 2 rfl (by kernel_rfl) (by repeat (first | exact lle_l0 | exact LLe.refl _ | exact lle_none | refine lle_up ?_ rfl)) (fun _ _ hh hl => lo_fieldAddr rfl fl56_0) ?_
    refine vw_q 3 rfl (by kernel_rfl) (by repeat (first | exact lle_l0 | exact LLe.refl _ | exact lle_none | refine lle_up ?_ rfl)) (fun _ _ hh hl => lo_load1 (i := 0) (v := str _) rfl ag9 (hl _ _ rfl) rfl) ?_
    have := outText_len (outNum (outNum (⟨[], 0⟩ : Out) d.kind 1) d.tick 8) d.queue.name
    refine vw_qc 4 rfl (by kernel_rfl) (by repeat (first | exact lle_l0 | exact LLe.refl _ | exact lle_none | refine lle_up ?_ rfl)) (out_Text _ (outNum (outNum (⟨[], 0⟩ : Out) d.kind 1) d.tick 8) d.queue.name (by first | omega | (have := hrl (by assumption); omega) | (simp [outNum, outRaw, numB_len, numK] <;> omega) | (have := hrl (by assumption); simp [outNum, outRaw, numB_len, numK] <;> omega))) (en_f cb109 rfl) ?_
    refine vw_q 5 rfl (by kernel_rfl) (by repeat (first | exact lle_l0 | exact LLe.refl _ | exact lle_none | refine lle_up ?_ rfl)) (fun _ _ hh hl => lo_fieldAddr rfl fl60_3) ?_
    refine vw_q 6 rfl (by kernel_rfl) (by repeat (first | exact lle_l0 | exact LLe.refl _ | exact lle_none | refine lle_up ?_ rfl)) (fun _ _ hh hl => lo_fieldAddr rfl fl56_1) ?_
    refine vw_q 7 rfl (by kernel_rfl) (by repeat (first | exact lle_l0 | exact LLe.refl _ | exact lle_none | refine lle_up ?_ rfl)) (fun _ _ hh hl => lo_load1 (i := 0) (v := .int _ _) rfl ag25 (hl _ _ rfl) rfl) ?_
    have := outNum_len (outText (outNum (outNum (⟨[], 0⟩ : Out) d.kind 1) d.tick 8) d.queue.name) d.queue.most 8
    refine vw_qc 8 rfl (by kernel_rfl) (by repeat (first | exact lle_l0 | exact LLe.refl _ | exact lle_none | refine lle_up ?_ rfl)) (out_Num _ (outText (outNum (outNum (⟨[], 0⟩ : Out) d.kind 1) d.tick 8) d.queue.name) d.queue.most (by omega) 8 (by omega) (by first | omega | (have := hrl (by assumption); omega) | (simp [outNum, outRaw, numB_len, numK] <;> omega) | (have := hrl (by assumption); simp [outNum, outRaw, numB_len, numK] <;> omega))) (en_f cb107 rfl) ?_
    refine vw_q 9 rfl (by kernel_rfl) (by repeat (first | exact lle_l0 | exact LLe.refl _ | exact lle_none | refine lle_up ?_ rfl)) (fun _ _ hh hl => lo_fieldAddr rfl fl60_3) ?_
    refine vw_q 10 rfl (by kernel_rfl) (by repeat (first | exact lle_l0 | exact LLe.refl _ | exact lle_none | refine lle_up ?_ rfl)) (fun _ _ hh hl => lo_fieldAddr rfl fl56_2) ?_
    refine vw_q 11 rfl (by kernel_rfl) (by repeat (first | exact lle_l0 | exact LLe.refl _ | exact lle_none | refine lle_up ?_ rfl)) (fun _ _ hh hl => lo_load1 (i := 0) (v := .int _ _) rfl ag25 (hl _ _ rfl) rfl) ?_
    have := outNum_len (outNum (outText (outNum (outNum (⟨[], 0⟩ : Out) d.kind 1) d.tick 8) d.queue.name) d.queue.most 8) d.queue.life 8
    refine vw_qc 12 rfl (by kernel_rfl) (by repeat (first | exact lle_l0 | exact LLe.refl _ | exact lle_none | refine lle_up ?_ rfl)) (out_Num _ (outNum (outText (outNum (outNum (⟨[], 0⟩ : Out) d.kind 1) d.tick 8) d.queue.name) d.queue.most 8) d.queue.life (by omega) 8 (by omega) (by first | omega | (have := hrl (by assumption); omega) | (simp [outNum, outRaw, numB_len, numK] <;> omega) | (have := hrl (by assumption); simp [outNum, outRaw, numB_len, numK] <;> omega))) (en_f cb107 rfl) ?_
    refine vw_q 13 rfl (by kernel_rfl) (by repeat (first | exact lle_l0 | exact LLe.refl _ | exact lle_none | refine lle_up ?_ rfl)) (fun _ _ hh hl => lo_fieldAddr rfl fl60_3) ?_
    refine vw_q 14 rfl (by kernel_rfl) (by repeat (first | exact lle_l0 | exact LLe.refl _ | exact lle_none | refine lle_up ?_ rfl)) (fun _ _ hh hl => lo_fieldAddr rfl fl56_3) ?_
    refine vw_q 15 rfl (by kernel_rfl) (by repeat (first | exact lle_l0 | exact LLe.refl _ | exact lle_none | refine lle_up ?_ rfl)) (fun _ _ hh hl => lo_load1 (i := 0) (v := str _) rfl ag9 (hl _ _ rfl) rfl) ?_
    have := outText_len (outNum (outNum (outText (outNum (outNum (⟨[], 0⟩ : Out) d.kind 1) d.tick 8) d.queue.name) d.queue.most 8) d.queue.life 8) d.queue.dead
    refine vw_qc 16 rfl (by kernel_rfl) (by repeat (first | exact lle_l0 | exact LLe.refl _ | exact lle_none | refine lle_up ?_ rfl)) (out_Text _ (outNum (outNum (outText (outNum (outNum (⟨[], 0⟩ : Out) d.kind 1) d.tick 8) d.queue.name) d.queue.most 8) d.queue.life 8) d.queue.dead (by first | omega | (have := hrl (by assumption); omega) | (simp [outNum, outRaw, numB_len, numK] <;> omega) | (have := hrl (by assumption); simp [outNum, outRaw, numB_len, numK] <;> omega))) (en_f cb109 rfl) ?_
    refine vw_t 17 rfl (by kernel_rfl) (by kernel_rfl) (op1_storeAll (i := 1) (vs := [_, _]) rfl rfl rfl sz176 rfl rfl rfl ?_)
    refine vw_done (by kernel_rfl) (blkK_n (seqK_n (cw_seq (cw_region (ol rfl (lo_loadA (i := 1) (vs := [_, _]) rfl ag176 sz176 rfl rfl rfl) ?_)))))
    refine ow1 (op1_pr (out_String _ (outText (outNum (outNum (outText (outNum (outNum (⟨[], 0⟩ : Out) d.kind 1) d.tick 8) d.queue.name) d.queue.most 8) d.queue.life 8) d.queue.dead)) (en_f cb113 rfl) rfl ?_)
    refine ol rfl (lo_assign (v := str _) rfl) (oai rfl rfl (ow_nil (seqK_n (cw_ret (fnK_r (res2 rfl (rv_t (v := str _) rfl) (rv_t (v := .int _ _) rfl)) (.refl _) ?_)))))
    have e : deedBytes d = (outText (outNum (outNum (outText (outNum (outNum (⟨[], 0⟩ : Out) d.kind 1) d.tick 8) d.queue.name) d.queue.most 8) d.queue.life 8) d.queue.dead).s := by
      unfold deedBytes
      first
        | (rw [if_neg (by assumption)]; done)
        | (rw [if_pos (by assumption)]; unfold deedOut; (repeat (first | rw [if_pos (by omega)] | rw [if_neg (by omega)] | rw [if_pos (by assumption)] | rw [if_neg (by assumption)] | rw [if_neg (fun q => q (by assumption))])); first | done | rfl)
    rw [e]
    try (rw [show deedE d = 0 by assumption])
  have p13 := df h11
  refine cw_seq (cw_seq (cw_region (ol rfl (lo_eql rfl rfl) (oab rfl rfl (ow_nil ?_)))))
  refine seqK_n (cw_cond rfl (fun h14 => ?_) (fun h14 => ?_))
  · have p15 := dt h14
    refine cw_skip (seqK_n (cw_cond_t rfl h14 (cw_seq (cw_region (ol rfl (lo_fieldAddr rfl fl60_4) ?_)))))
    refine ol rfl (lo_loadA (i := 0) (vs := [_, _, _, _, _, _]) rfl ag58 sz58 rfl rfl rfl) (ow1 (op1_alloc 2 rfl zr58 (fun b16 => ?_)))
    refine ow1 (op1_storeAll (i := 2) (vs := [_, _, _, _, _, _]) rfl rfl rfl sz58 rfl rfl rfl ?_)
    refine ow_nil (seqK_n (cw_seq (cw_region (ol rfl (lo_fieldAddr rfl fl58_4) (ol rfl (lo_load1 (i := 2) (v := .slice _ _ _) rfl ag26 rfl rfl) ?_)))))
    refine ow1 (op1_pr (head_Bytes _ d_bind_want_a d.bind.want.length d_bind_want_c d.bind.want d_bind_want_h (by first | omega | (simp <;> omega))) (en_f cb110 rfl) rfl ?_)
    have := headBytes_len d.bind.want
    refine ol rfl (lo_move (v := .tuple #[_, _]) rfl) (ol rfl (lo_extract (v := str _) rfl rfl) (ol rfl (lo_extract (v := .int _ _) rfl rfl) (ol rfl (lo_assign (v := str _) rfl) (oai rfl rfl (ow_nil ?_)))))
    refine seqK_n (cw_anyL mixd (vw_q 0 rfl (by kernel_rfl) (by repeat (first | exact lle_l0 | exact LLe.refl _ | exact lle_none | refine lle_up ?_ rfl)) (fun _ _ hh hl => lo_loadA (i := 1) (vs := [_, _]) rfl ag176 sz176 (hl _ _ rfl) rfl rfl) ?_))
    refine vw_q 1 rfl (by kernel_rfl) (by repeat (first | exact lle_l0 | exact LLe.refl _ | exact lle_none | refine lle_up ?_ rfl)) (fun _ _ hh hl => lo_fieldAddr rfl fl58_0) ?_
    refine vw_q 2 rfl (by kernel_rfl) (by repeat (first | exact lle_l0 | exact LLe.refl _ | exact lle_none | refine lle_up ?_ rfl)) (fun _ _ hh hl => lo_load1 (i := 2) (v := str _) rfl ag9 (hl _ _ rfl) rfl) ?_
    have := outText_len (outNum (outNum (⟨[], 0⟩ : Out) d.kind 1) d.tick 8) d.bind.shop
    refine vw_qc 3 rfl (by kernel_rfl) (by repeat (first | exact lle_l0 | exact LLe.refl _ | exact lle_none | refine lle_up ?_ rfl)) (out_Text _ (outNum (outNum (⟨[], 0⟩ : Out) d.kind 1) d.tick 8) d.bind.shop (by first | omega | (have := hrl (by assumption); omega) | (simp [outNum, outRaw, numB_len, numK] <;> omega) | (have := hrl (by assumption); simp [outNum, outRaw, numB_len, numK] <;> omega))) (en_f cb109 rfl) ?_
    refine vw_q 4 rfl (by kernel_rfl) (by repeat (first | exact lle_l0 | exact LLe.refl _ | exact lle_none | refine lle_up ?_ rfl)) (fun _ _ hh hl => lo_fieldAddr rfl fl58_1) ?_
    refine vw_q 5 rfl (by kernel_rfl) (by repeat (first | exact lle_l0 | exact LLe.refl _ | exact lle_none | refine lle_up ?_ rfl)) (fun _ _ hh hl => lo_load1 (i := 2) (v := str _) rfl ag9 (hl _ _ rfl) rfl) ?_
    have := outText_len (outText (outNum (outNum (⟨[], 0⟩ : Out) d.kind 1) d.tick 8) d.bind.shop) d.bind.to
    refine vw_qc 6 rfl (by kernel_rfl) (by repeat (first | exact lle_l0 | exact LLe.refl _ | exact lle_none | refine lle_up ?_ rfl)) (out_Text _ (outText (outNum (outNum (⟨[], 0⟩ : Out) d.kind 1) d.tick 8) d.bind.shop) d.bind.to (by first | omega | (have := hrl (by assumption); omega) | (simp [outNum, outRaw, numB_len, numK] <;> omega) | (have := hrl (by assumption); simp [outNum, outRaw, numB_len, numK] <;> omega))) (en_f cb109 rfl) ?_
    refine vw_q 7 rfl (by kernel_rfl) (by repeat (first | exact lle_l0 | exact LLe.refl _ | exact lle_none | refine lle_up ?_ rfl)) (fun _ _ hh hl => lo_fieldAddr rfl fl58_2) ?_
    refine vw_q 8 rfl (by kernel_rfl) (by repeat (first | exact lle_l0 | exact LLe.refl _ | exact lle_none | refine lle_up ?_ rfl)) (fun _ _ hh hl => lo_load1 (i := 2) (v := .bool _) rfl ag4 (hl _ _ rfl) rfl) ?_
    have := bitN_r d.bind.up
    refine vw_qc 9 rfl (by kernel_rfl) (by repeat (first | exact lle_l0 | exact LLe.refl _ | exact lle_none | refine lle_up ?_ rfl)) (deed_bit _ d.bind.up) (en_f cb111 rfl) ?_
    have := outNum_len (outText (outText (outNum (outNum (⟨[], 0⟩ : Out) d.kind 1) d.tick 8) d.bind.shop) d.bind.to) (bitN d.bind.up) 1
    refine vw_qc 10 rfl (by kernel_rfl) (by repeat (first | exact lle_l0 | exact LLe.refl _ | exact lle_none | refine lle_up ?_ rfl)) (out_Num _ (outText (outText (outNum (outNum (⟨[], 0⟩ : Out) d.kind 1) d.tick 8) d.bind.shop) d.bind.to) (bitN d.bind.up) (by omega) 1 (by omega) (by first | omega | (have := hrl (by assumption); omega) | (simp [outNum, outRaw, numB_len, numK] <;> omega) | (have := hrl (by assumption); simp [outNum, outRaw, numB_len, numK] <;> omega))) (en_f cb107 rfl) ?_
    refine vw_q 11 rfl (by kernel_rfl) (by repeat (first | exact lle_l0 | exact LLe.refl _ | exact lle_none | refine lle_up ?_ rfl)) (fun _ _ hh hl => lo_fieldAddr rfl fl58_3) ?_
    refine vw_q 12 rfl (by kernel_rfl) (by repeat (first | exact lle_l0 | exact LLe.refl _ | exact lle_none | refine lle_up ?_ rfl)) (fun _ _ hh hl => lo_load1 (i := 2) (v := str _) rfl ag9 (hl _ _ rfl) rfl) ?_
    have := outText_len (outNum (outText (outText (outNum (outNum (⟨[], 0⟩ : Out) d.kind 1) d.tick 8) d.bind.shop) d.bind.to) (bitN d.bind.up) 1) d.bind.key
    refine vw_qc 13 rfl (by kernel_rfl) (by repeat (first | exact lle_l0 | exact LLe.refl _ | exact lle_none | refine lle_up ?_ rfl)) (out_Text _ (outNum (outText (outText (outNum (outNum (⟨[], 0⟩ : Out) d.kind 1) d.tick 8) d.bind.shop) d.bind.to) (bitN d.bind.up) 1) d.bind.key (by first | omega | (have := hrl (by assumption); omega) | (simp [outNum, outRaw, numB_len, numK] <;> omega) | (have := hrl (by assumption); simp [outNum, outRaw, numB_len, numK] <;> omega))) (en_f cb109 rfl) ?_
    refine vw_q 14 rfl (by kernel_rfl) (by repeat (first | exact lle_l0 | exact LLe.refl _ | exact lle_none | refine lle_up ?_ rfl)) (fun _ _ hh hl => lo_move (v := str _) rfl) ?_
    have := outRaw_len (outText (outNum (outText (outText (outNum (outNum (⟨[], 0⟩ : Out) d.kind 1) d.tick 8) d.bind.shop) d.bind.to) (bitN d.bind.up) 1) d.bind.key) (headBytes d.bind.want)
    refine vw_qc 15 rfl (by kernel_rfl) (by repeat (first | exact lle_l0 | exact LLe.refl _ | exact lle_none | refine lle_up ?_ rfl)) (out_Raw _ (outText (outNum (outText (outText (outNum (outNum (⟨[], 0⟩ : Out) d.kind 1) d.tick 8) d.bind.shop) d.bind.to) (bitN d.bind.up) 1) d.bind.key) (headBytes d.bind.want) (by first | omega | (have := hrl (by assumption); omega) | (simp [outNum, outRaw, numB_len, numK] <;> omega) | (have := hrl (by assumption); simp [outNum, outRaw, numB_len, numK] <;> omega))) (en_f cb112 rfl) ?_
    refine vw_q 16 rfl (by kernel_rfl) (by repeat (first | exact lle_l0 | exact LLe.refl _ | exact lle_none | refine lle_up ?_ rfl)) (fun _ _ hh hl => lo_fieldAddr rfl fl58_5) ?_
    refine vw_q 17 rfl (by kernel_rfl) (by repeat (first | exact lle_l0 | exact LLe.refl _ | exact lle_none | refine lle_up ?_ rfl)) (fun _ _ hh hl => lo_load1 (i := 2) (v := .bool _) rfl ag4 (hl _ _ rfl) rfl) ?_
    have := bitN_r d.bind.all
    refine vw_qc 18 rfl (by kernel_rfl) (by repeat (first | exact lle_l0 | exact LLe.refl _ | exact lle_none | refine lle_up ?_ rfl)) (deed_bit _ d.bind.all) (en_f cb111 rfl) ?_
    have := outNum_len (outRaw (outText (outNum (outText (outText (outNum (outNum (⟨[], 0⟩ : Out) d.kind 1) d.tick 8) d.bind.shop) d.bind.to) (bitN d.bind.up) 1) d.bind.key) (headBytes d.bind.want)) (bitN d.bind.all) 1
    refine vw_qc 19 rfl (by kernel_rfl) (by repeat (first | exact lle_l0 | exact LLe.refl _ | exact lle_none | refine lle_up ?_ rfl)) (out_Num _ (outRaw (outText (outNum (outText (outText (outNum (outNum (⟨[], 0⟩ : Out) d.kind 1) d.tick 8) d.bind.shop) d.bind.to) (bitN d.bind.up) 1) d.bind.key) (headBytes d.bind.want)) (bitN d.bind.all) (by omega) 1 (by omega) (by first | omega | (have := hrl (by assumption); omega) | (simp [outNum, outRaw, numB_len, numK] <;> omega) | (have := hrl (by assumption); simp [outNum, outRaw, numB_len, numK] <;> omega))) (en_f cb107 rfl) ?_
    refine vw_t 20 rfl (by kernel_rfl) (by kernel_rfl) (op1_storeAll (i := 1) (vs := [_, _]) rfl rfl rfl sz176 rfl rfl rfl ?_)
    refine vw_done (by kernel_rfl) (blkK_n (seqK_n (cw_seq (cw_region (ol rfl (lo_loadA (i := 1) (vs := [_, _]) rfl ag176 sz176 rfl rfl rfl) ?_)))))
    refine ow1 (op1_pr (out_String _ (outNum (outRaw (outText (outNum (outText (outText (outNum (outNum (⟨[], 0⟩ : Out) d.kind 1) d.tick 8) d.bind.shop) d.bind.to) (bitN d.bind.up) 1) d.bind.key) (headBytes d.bind.want)) (bitN d.bind.all) 1)) (en_f cb113 rfl) rfl ?_)
    refine ol rfl (lo_assign (v := str _) rfl) (oai rfl rfl (ow_nil (seqK_n (cw_ret (fnK_r (res2 rfl (rv_t (v := str _) rfl) (rv_t (v := .int _ _) rfl)) (.refl _) ?_)))))
    have e : deedBytes d = (outNum (outRaw (outText (outNum (outText (outText (outNum (outNum (⟨[], 0⟩ : Out) d.kind 1) d.tick 8) d.bind.shop) d.bind.to) (bitN d.bind.up) 1) d.bind.key) (headBytes d.bind.want)) (bitN d.bind.all) 1).s := by
      unfold deedBytes
      first
        | (rw [if_neg (by assumption)]; done)
        | (rw [if_pos (by assumption)]; unfold deedOut; (repeat (first | rw [if_pos (by omega)] | rw [if_neg (by omega)] | rw [if_pos (by assumption)] | rw [if_neg (by assumption)] | rw [if_neg (fun q => q (by assumption))])); first | done | rfl)
    rw [e]
    try (rw [show deedE d = 0 by assumption])
  have p17 := df h14
  refine cw_region (ol rfl (lo_eql rfl rfl) (oab rfl rfl (ow_nil (seqK_n (cw_cond rfl (fun h18 => ?_) (fun h18 => ?_))))))
  · have p19 := dt h18
    refine cw_seq (cw_region (ol rfl (lo_fieldAddr rfl fl60_4) (ol rfl (lo_loadA (i := 0) (vs := [_, _, _, _, _, _]) rfl ag58 sz58 rfl rfl rfl) (ow1 (op1_alloc 2 rfl zr58 (fun b20 => ?_))))))
    refine ow1 (op1_storeAll (i := 2) (vs := [_, _, _, _, _, _]) rfl rfl rfl sz58 rfl rfl rfl ?_)
    refine ow_nil (seqK_n (cw_seq (cw_region (ol rfl (lo_fieldAddr rfl fl58_4) (ol rfl (lo_load1 (i := 2) (v := .slice _ _ _) rfl ag26 rfl rfl) ?_)))))
    refine ow1 (op1_pr (head_Bytes _ d_bind_want_a d.bind.want.length d_bind_want_c d.bind.want d_bind_want_h (by first | omega | (simp <;> omega))) (en_f cb110 rfl) rfl ?_)
    have := headBytes_len d.bind.want
    refine ol rfl (lo_move (v := .tuple #[_, _]) rfl) (ol rfl (lo_extract (v := str _) rfl rfl) (ol rfl (lo_extract (v := .int _ _) rfl rfl) (ol rfl (lo_assign (v := str _) rfl) (oai rfl rfl (ow_nil ?_)))))
    refine seqK_n (cw_anyL mixd (vw_q 0 rfl (by kernel_rfl) (by repeat (first | exact lle_l0 | exact LLe.refl _ | exact lle_none | refine lle_up ?_ rfl)) (fun _ _ hh hl => lo_loadA (i := 1) (vs := [_, _]) rfl ag176 sz176 (hl _ _ rfl) rfl rfl) ?_))
    refine vw_q 1 rfl (by kernel_rfl) (by repeat (first | exact lle_l0 | exact LLe.refl _ | exact lle_none | refine lle_up ?_ rfl)) (fun _ _ hh hl => lo_fieldAddr rfl fl58_0) ?_
    refine vw_q 2 rfl (by kernel_rfl) (by repeat (first | exact lle_l0 | exact LLe.refl _ | exact lle_none | refine lle_up ?_ rfl)) (fun _ _ hh hl => lo_load1 (i := 2) (v := str _) rfl ag9 (hl _ _ rfl) rfl) ?_
    have := outText_len (outNum (outNum (⟨[], 0⟩ : Out) d.kind 1) d.tick 8) d.bind.shop
    refine vw_qc 3 rfl (by kernel_rfl) (by repeat (first | exact lle_l0 | exact LLe.refl _ | exact lle_none | refine lle_up ?_ rfl)) (out_Text _ (outNum (outNum (⟨[], 0⟩ : Out) d.kind 1) d.tick 8) d.bind.shop (by first | omega | (have := hrl (by assumption); omega) | (simp [outNum, outRaw, numB_len, numK] <;> omega) | (have := hrl (by assumption); simp [outNum, outRaw, numB_len, numK] <;> omega))) (en_f cb109 rfl) ?_
    refine vw_q 4 rfl (by kernel_rfl) (by repeat (first | exact lle_l0 | exact LLe.refl _ | exact lle_none | refine lle_up ?_ rfl)) (fun _ _ hh hl => lo_fieldAddr rfl fl58_1) ?_
    refine vw_q 5 rfl (by kernel_rfl) (by repeat (first | exact lle_l0 | exact LLe.refl _ | exact lle_none | refine lle_up ?_ rfl)) (fun _ _ hh hl => lo_load1 (i := 2) (v := str _) rfl ag9 (hl _ _ rfl) rfl) ?_
    have := outText_len (outText (outNum (outNum (⟨[], 0⟩ : Out) d.kind 1) d.tick 8) d.bind.shop) d.bind.to
    refine vw_qc 6 rfl (by kernel_rfl) (by repeat (first | exact lle_l0 | exact LLe.refl _ | exact lle_none | refine lle_up ?_ rfl)) (out_Text _ (outText (outNum (outNum (⟨[], 0⟩ : Out) d.kind 1) d.tick 8) d.bind.shop) d.bind.to (by first | omega | (have := hrl (by assumption); omega) | (simp [outNum, outRaw, numB_len, numK] <;> omega) | (have := hrl (by assumption); simp [outNum, outRaw, numB_len, numK] <;> omega))) (en_f cb109 rfl) ?_
    refine vw_q 7 rfl (by kernel_rfl) (by repeat (first | exact lle_l0 | exact LLe.refl _ | exact lle_none | refine lle_up ?_ rfl)) (fun _ _ hh hl => lo_fieldAddr rfl fl58_2) ?_
    refine vw_q 8 rfl (by kernel_rfl) (by repeat (first | exact lle_l0 | exact LLe.refl _ | exact lle_none | refine lle_up ?_ rfl)) (fun _ _ hh hl => lo_load1 (i := 2) (v := .bool _) rfl ag4 (hl _ _ rfl) rfl) ?_
    have := bitN_r d.bind.up
    refine vw_qc 9 rfl (by kernel_rfl) (by repeat (first | exact lle_l0 | exact LLe.refl _ | exact lle_none | refine lle_up ?_ rfl)) (deed_bit _ d.bind.up) (en_f cb111 rfl) ?_
    have := outNum_len (outText (outText (outNum (outNum (⟨[], 0⟩ : Out) d.kind 1) d.tick 8) d.bind.shop) d.bind.to) (bitN d.bind.up) 1
    refine vw_qc 10 rfl (by kernel_rfl) (by repeat (first | exact lle_l0 | exact LLe.refl _ | exact lle_none | refine lle_up ?_ rfl)) (out_Num _ (outText (outText (outNum (outNum (⟨[], 0⟩ : Out) d.kind 1) d.tick 8) d.bind.shop) d.bind.to) (bitN d.bind.up) (by omega) 1 (by omega) (by first | omega | (have := hrl (by assumption); omega) | (simp [outNum, outRaw, numB_len, numK] <;> omega) | (have := hrl (by assumption); simp [outNum, outRaw, numB_len, numK] <;> omega))) (en_f cb107 rfl) ?_
    refine vw_q 11 rfl (by kernel_rfl) (by repeat (first | exact lle_l0 | exact LLe.refl _ | exact lle_none | refine lle_up ?_ rfl)) (fun _ _ hh hl => lo_fieldAddr rfl fl58_3) ?_
    refine vw_q 12 rfl (by kernel_rfl) (by repeat (first | exact lle_l0 | exact LLe.refl _ | exact lle_none | refine lle_up ?_ rfl)) (fun _ _ hh hl => lo_load1 (i := 2) (v := str _) rfl ag9 (hl _ _ rfl) rfl) ?_
    have := outText_len (outNum (outText (outText (outNum (outNum (⟨[], 0⟩ : Out) d.kind 1) d.tick 8) d.bind.shop) d.bind.to) (bitN d.bind.up) 1) d.bind.key
    refine vw_qc 13 rfl (by kernel_rfl) (by repeat (first | exact lle_l0 | exact LLe.refl _ | exact lle_none | refine lle_up ?_ rfl)) (out_Text _ (outNum (outText (outText (outNum (outNum (⟨[], 0⟩ : Out) d.kind 1) d.tick 8) d.bind.shop) d.bind.to) (bitN d.bind.up) 1) d.bind.key (by first | omega | (have := hrl (by assumption); omega) | (simp [outNum, outRaw, numB_len, numK] <;> omega) | (have := hrl (by assumption); simp [outNum, outRaw, numB_len, numK] <;> omega))) (en_f cb109 rfl) ?_
    refine vw_q 14 rfl (by kernel_rfl) (by repeat (first | exact lle_l0 | exact LLe.refl _ | exact lle_none | refine lle_up ?_ rfl)) (fun _ _ hh hl => lo_move (v := str _) rfl) ?_
    have := outRaw_len (outText (outNum (outText (outText (outNum (outNum (⟨[], 0⟩ : Out) d.kind 1) d.tick 8) d.bind.shop) d.bind.to) (bitN d.bind.up) 1) d.bind.key) (headBytes d.bind.want)
    refine vw_qc 15 rfl (by kernel_rfl) (by repeat (first | exact lle_l0 | exact LLe.refl _ | exact lle_none | refine lle_up ?_ rfl)) (out_Raw _ (outText (outNum (outText (outText (outNum (outNum (⟨[], 0⟩ : Out) d.kind 1) d.tick 8) d.bind.shop) d.bind.to) (bitN d.bind.up) 1) d.bind.key) (headBytes d.bind.want) (by first | omega | (have := hrl (by assumption); omega) | (simp [outNum, outRaw, numB_len, numK] <;> omega) | (have := hrl (by assumption); simp [outNum, outRaw, numB_len, numK] <;> omega))) (en_f cb112 rfl) ?_
    refine vw_q 16 rfl (by kernel_rfl) (by repeat (first | exact lle_l0 | exact LLe.refl _ | exact lle_none | refine lle_up ?_ rfl)) (fun _ _ hh hl => lo_fieldAddr rfl fl58_5) ?_
    refine vw_q 17 rfl (by kernel_rfl) (by repeat (first | exact lle_l0 | exact LLe.refl _ | exact lle_none | refine lle_up ?_ rfl)) (fun _ _ hh hl => lo_load1 (i := 2) (v := .bool _) rfl ag4 (hl _ _ rfl) rfl) ?_
    have := bitN_r d.bind.all
    refine vw_qc 18 rfl (by kernel_rfl) (by repeat (first | exact lle_l0 | exact LLe.refl _ | exact lle_none | refine lle_up ?_ rfl)) (deed_bit _ d.bind.all) (en_f cb111 rfl) ?_
    have := outNum_len (outRaw (outText (outNum (outText (outText (outNum (outNum (⟨[], 0⟩ : Out) d.kind 1) d.tick 8) d.bind.shop) d.bind.to) (bitN d.bind.up) 1) d.bind.key) (headBytes d.bind.want)) (bitN d.bind.all) 1
    refine vw_qc 19 rfl (by kernel_rfl) (by repeat (first | exact lle_l0 | exact LLe.refl _ | exact lle_none | refine lle_up ?_ rfl)) (out_Num _ (outRaw (outText (outNum (outText (outText (outNum (outNum (⟨[], 0⟩ : Out) d.kind 1) d.tick 8) d.bind.shop) d.bind.to) (bitN d.bind.up) 1) d.bind.key) (headBytes d.bind.want)) (bitN d.bind.all) (by omega) 1 (by omega) (by first | omega | (have := hrl (by assumption); omega) | (simp [outNum, outRaw, numB_len, numK] <;> omega) | (have := hrl (by assumption); simp [outNum, outRaw, numB_len, numK] <;> omega))) (en_f cb107 rfl) ?_
    refine vw_t 20 rfl (by kernel_rfl) (by kernel_rfl) (op1_storeAll (i := 1) (vs := [_, _]) rfl rfl rfl sz176 rfl rfl rfl ?_)
    refine vw_done (by kernel_rfl) (blkK_n (seqK_n (cw_seq (cw_region (ol rfl (lo_loadA (i := 1) (vs := [_, _]) rfl ag176 sz176 rfl rfl rfl) ?_)))))
    refine ow1 (op1_pr (out_String _ (outNum (outRaw (outText (outNum (outText (outText (outNum (outNum (⟨[], 0⟩ : Out) d.kind 1) d.tick 8) d.bind.shop) d.bind.to) (bitN d.bind.up) 1) d.bind.key) (headBytes d.bind.want)) (bitN d.bind.all) 1)) (en_f cb113 rfl) rfl ?_)
    refine ol rfl (lo_assign (v := str _) rfl) (oai rfl rfl (ow_nil (seqK_n (cw_ret (fnK_r (res2 rfl (rv_t (v := str _) rfl) (rv_t (v := .int _ _) rfl)) (.refl _) ?_)))))
    have e : deedBytes d = (outNum (outRaw (outText (outNum (outText (outText (outNum (outNum (⟨[], 0⟩ : Out) d.kind 1) d.tick 8) d.bind.shop) d.bind.to) (bitN d.bind.up) 1) d.bind.key) (headBytes d.bind.want)) (bitN d.bind.all) 1).s := by
      unfold deedBytes
      first
        | (rw [if_neg (by assumption)]; done)
        | (rw [if_pos (by assumption)]; unfold deedOut; (repeat (first | rw [if_pos (by omega)] | rw [if_neg (by omega)] | rw [if_pos (by assumption)] | rw [if_neg (by assumption)] | rw [if_neg (fun q => q (by assumption))])); first | done | rfl)
    rw [e]
    try (rw [show deedE d = 0 by assumption])
  have p21 := df h18
  refine cw_seq (cw_region (ol rfl (lo_eql rfl rfl) (oab rfl rfl (ow_nil (seqK_n ?_)))))
  refine cw_cond rfl (fun h22 => ?_) (fun h22 => ?_)
  · have p23 := dt h22
    refine cw_region (ol rfl (lo_loadA (i := 1) (vs := [_, _]) rfl ag176 sz176 rfl rfl rfl) (ol rfl (lo_move (v := str _) rfl) ?_))
    refine ow1 (op1_pr (out_Raw _ (outNum (outNum (⟨[], 0⟩ : Out) d.kind 1) d.tick 8) (mailBytes d.mail) (by first | omega | (have := hrl (by assumption); omega) | (simp [outNum, outRaw, numB_len, numK] <;> omega) | (have := hrl (by assumption); simp [outNum, outRaw, numB_len, numK] <;> omega))) (en_f cb112 rfl) rfl ?_)
    have := outRaw_len (outNum (outNum (⟨[], 0⟩ : Out) d.kind 1) d.tick 8) (mailBytes d.mail)
    refine ow1 (op1_storeAll (i := 1) (vs := [_, _]) rfl rfl rfl sz176 rfl rfl rfl ?_)
    refine ow_nil (blkK_n (seqK_n (cw_seq (cw_region (ol rfl (lo_loadA (i := 1) (vs := [_, _]) rfl ag176 sz176 rfl rfl rfl) ?_)))))
    refine ow1 (op1_pr (out_String _ (outRaw (outNum (outNum (⟨[], 0⟩ : Out) d.kind 1) d.tick 8) (mailBytes d.mail))) (en_f cb113 rfl) rfl ?_)
    refine ol rfl (lo_assign (v := str _) rfl) (oai rfl rfl (ow_nil (seqK_n (cw_ret (fnK_r (res2 rfl (rv_t (v := str _) rfl) (rv_t (v := .int _ _) rfl)) (.refl _) ?_)))))
    have e : deedBytes d = (outRaw (outNum (outNum (⟨[], 0⟩ : Out) d.kind 1) d.tick 8) (mailBytes d.mail)).s := by
      unfold deedBytes
      first
        | (rw [if_neg (by assumption)]; done)
        | (rw [if_pos (by assumption)]; unfold deedOut; (repeat (first | rw [if_pos (by omega)] | rw [if_neg (by omega)] | rw [if_pos (by assumption)] | rw [if_neg (by assumption)] | rw [if_neg (fun q => q (by assumption))])); first | done | rfl)
    rw [e]
    try (rw [show deedE d = 0 by assumption])
  have p24 := df h22
  refine cw_seq (cw_seq (cw_region (ol rfl (lo_eql rfl rfl) (oab rfl rfl (ow_nil ?_)))))
  refine seqK_n (cw_cond rfl (fun h25 => ?_) (fun h25 => ?_))
  · have p26 := dt h25
    refine cw_skip (seqK_n (cw_cond_t rfl h25 (cw_region (ol rfl (lo_loadA (i := 1) (vs := [_, _]) rfl ag176 sz176 rfl rfl rfl) (ol rfl (lo_fieldAddr rfl fl60_5) ?_)))))
    refine ol rfl (lo_load1 (i := 0) (v := str _) rfl ag9 rfl rfl) ?_
    refine ow1 (op1_pr (out_Text _ (outNum (outNum (⟨[], 0⟩ : Out) d.kind 1) d.tick 8) d.name (by first | omega | (have := hrl (by assumption); omega) | (simp [outNum, outRaw, numB_len, numK] <;> omega) | (have := hrl (by assumption); simp [outNum, outRaw, numB_len, numK] <;> omega))) (en_f cb109 rfl) rfl ?_)
    have := outText_len (outNum (outNum (⟨[], 0⟩ : Out) d.kind 1) d.tick 8) d.name
    refine ow1 (op1_storeAll (i := 1) (vs := [_, _]) rfl rfl rfl sz176 rfl rfl rfl ?_)
    refine ow_nil (blkK_n (seqK_n (cw_seq (cw_region (ol rfl (lo_loadA (i := 1) (vs := [_, _]) rfl ag176 sz176 rfl rfl rfl) ?_)))))
    refine ow1 (op1_pr (out_String _ (outText (outNum (outNum (⟨[], 0⟩ : Out) d.kind 1) d.tick 8) d.name)) (en_f cb113 rfl) rfl ?_)
    refine ol rfl (lo_assign (v := str _) rfl) (oai rfl rfl (ow_nil (seqK_n (cw_ret (fnK_r (res2 rfl (rv_t (v := str _) rfl) (rv_t (v := .int _ _) rfl)) (.refl _) ?_)))))
    have e : deedBytes d = (outText (outNum (outNum (⟨[], 0⟩ : Out) d.kind 1) d.tick 8) d.name).s := by
      unfold deedBytes
      first
        | (rw [if_neg (by assumption)]; done)
        | (rw [if_pos (by assumption)]; unfold deedOut; (repeat (first | rw [if_pos (by omega)] | rw [if_neg (by omega)] | rw [if_pos (by assumption)] | rw [if_neg (by assumption)] | rw [if_neg (fun q => q (by assumption))])); first | done | rfl)
    rw [e]
    try (rw [show deedE d = 0 by assumption])
  have p27 := df h25
  refine cw_seq (cw_region (ol rfl (lo_eql rfl rfl) (oab rfl rfl (ow_nil (seqK_n ?_)))))
  refine cw_cond rfl (fun h28 => ?_) (fun h28 => ?_)
  · have p29 := dt h28
    refine cw_skip (seqK_n (cw_cond_t rfl h28 (cw_region (ol rfl (lo_loadA (i := 1) (vs := [_, _]) rfl ag176 sz176 rfl rfl rfl) (ol rfl (lo_fieldAddr rfl fl60_5) ?_)))))
    refine ol rfl (lo_load1 (i := 0) (v := str _) rfl ag9 rfl rfl) ?_
    refine ow1 (op1_pr (out_Text _ (outNum (outNum (⟨[], 0⟩ : Out) d.kind 1) d.tick 8) d.name (by first | omega | (have := hrl (by assumption); omega) | (simp [outNum, outRaw, numB_len, numK] <;> omega) | (have := hrl (by assumption); simp [outNum, outRaw, numB_len, numK] <;> omega))) (en_f cb109 rfl) rfl ?_)
    have := outText_len (outNum (outNum (⟨[], 0⟩ : Out) d.kind 1) d.tick 8) d.name
    refine ow1 (op1_storeAll (i := 1) (vs := [_, _]) rfl rfl rfl sz176 rfl rfl rfl ?_)
    refine ow_nil (blkK_n (seqK_n (cw_seq (cw_region (ol rfl (lo_loadA (i := 1) (vs := [_, _]) rfl ag176 sz176 rfl rfl rfl) ?_)))))
    refine ow1 (op1_pr (out_String _ (outText (outNum (outNum (⟨[], 0⟩ : Out) d.kind 1) d.tick 8) d.name)) (en_f cb113 rfl) rfl ?_)
    refine ol rfl (lo_assign (v := str _) rfl) (oai rfl rfl (ow_nil (seqK_n (cw_ret (fnK_r (res2 rfl (rv_t (v := str _) rfl) (rv_t (v := .int _ _) rfl)) (.refl _) ?_)))))
    have e : deedBytes d = (outText (outNum (outNum (⟨[], 0⟩ : Out) d.kind 1) d.tick 8) d.name).s := by
      unfold deedBytes
      first
        | (rw [if_neg (by assumption)]; done)
        | (rw [if_pos (by assumption)]; unfold deedOut; (repeat (first | rw [if_pos (by omega)] | rw [if_neg (by omega)] | rw [if_pos (by assumption)] | rw [if_neg (by assumption)] | rw [if_neg (fun q => q (by assumption))])); first | done | rfl)
    rw [e]
    try (rw [show deedE d = 0 by assumption])
  have p30 := df h28
  refine cw_region (ol rfl (lo_eql rfl rfl) (oab rfl rfl (ow_nil (seqK_n (cw_cond rfl (fun h31 => ?_) (fun h31 => ?_))))))
  · have p32 := dt h31
    refine cw_region (ol rfl (lo_loadA (i := 1) (vs := [_, _]) rfl ag176 sz176 rfl rfl rfl) (ol rfl (lo_fieldAddr rfl fl60_5) (ol rfl (lo_load1 (i := 0) (v := str _) rfl ag9 rfl rfl) ?_)))
    refine ow1 (op1_pr (out_Text _ (outNum (outNum (⟨[], 0⟩ : Out) d.kind 1) d.tick 8) d.name (by first | omega | (have := hrl (by assumption); omega) | (simp [outNum, outRaw, numB_len, numK] <;> omega) | (have := hrl (by assumption); simp [outNum, outRaw, numB_len, numK] <;> omega))) (en_f cb109 rfl) rfl ?_)
    have := outText_len (outNum (outNum (⟨[], 0⟩ : Out) d.kind 1) d.tick 8) d.name
    refine ow1 (op1_storeAll (i := 1) (vs := [_, _]) rfl rfl rfl sz176 rfl rfl rfl ?_)
    refine ow_nil (blkK_n (seqK_n (cw_seq (cw_region (ol rfl (lo_loadA (i := 1) (vs := [_, _]) rfl ag176 sz176 rfl rfl rfl) ?_)))))
    refine ow1 (op1_pr (out_String _ (outText (outNum (outNum (⟨[], 0⟩ : Out) d.kind 1) d.tick 8) d.name)) (en_f cb113 rfl) rfl ?_)
    refine ol rfl (lo_assign (v := str _) rfl) (oai rfl rfl (ow_nil (seqK_n (cw_ret (fnK_r (res2 rfl (rv_t (v := str _) rfl) (rv_t (v := .int _ _) rfl)) (.refl _) ?_)))))
    have e : deedBytes d = (outText (outNum (outNum (⟨[], 0⟩ : Out) d.kind 1) d.tick 8) d.name).s := by
      unfold deedBytes
      first
        | (rw [if_neg (by assumption)]; done)
        | (rw [if_pos (by assumption)]; unfold deedOut; (repeat (first | rw [if_pos (by omega)] | rw [if_neg (by omega)] | rw [if_pos (by assumption)] | rw [if_neg (by assumption)] | rw [if_neg (fun q => q (by assumption))])); first | done | rfl)
    rw [e]
    try (rw [show deedE d = 0 by assumption])
  have p33 := df h31
  refine cw_seq (cw_region (ol rfl (lo_eql rfl rfl) (oab rfl rfl (ow_nil (seqK_n ?_)))))
  refine cw_cond rfl (fun h34 => ?_) (fun h34 => ?_)
  · have p35 := dt h34
    refine cw_anyL mixd (vw_q 0 rfl (by kernel_rfl) (by repeat (first | exact lle_l0 | exact LLe.refl _ | exact lle_none | refine lle_up ?_ rfl)) (fun _ _ hh hl => lo_loadA (i := 1) (vs := [_, _]) rfl ag176 sz176 (hl _ _ rfl) rfl rfl) ?_)
    refine vw_q 1 rfl (by kernel_rfl) (by repeat (first | exact lle_l0 | exact LLe.refl _ | exact lle_none | refine lle_up ?_ rfl)) (fun _ _ hh hl => lo_fieldAddr rfl fl60_5) ?_
    refine vw_q 2 rfl (by kernel_rfl) (by repeat (first | exact lle_l0 | exact LLe.refl _ | exact lle_none | refine lle_up ?_ rfl)) (fun _ _ hh hl => lo_load1 (i := 0) (v := str _) rfl ag9 (hl _ _ rfl) rfl) ?_
    have := outText_len (outNum (outNum (⟨[], 0⟩ : Out) d.kind 1) d.tick 8) d.name
    refine vw_qc 3 rfl (by kernel_rfl) (by repeat (first | exact lle_l0 | exact LLe.refl _ | exact lle_none | refine lle_up ?_ rfl)) (out_Text _ (outNum (outNum (⟨[], 0⟩ : Out) d.kind 1) d.tick 8) d.name (by first | omega | (have := hrl (by assumption); omega) | (simp [outNum, outRaw, numB_len, numK] <;> omega) | (have := hrl (by assumption); simp [outNum, outRaw, numB_len, numK] <;> omega))) (en_f cb109 rfl) ?_
    refine vw_q 4 rfl (by kernel_rfl) (by repeat (first | exact lle_l0 | exact LLe.refl _ | exact lle_none | refine lle_up ?_ rfl)) (fun _ _ hh hl => lo_fieldAddr rfl fl60_6) ?_
    refine vw_q 5 rfl (by kernel_rfl) (by repeat (first | exact lle_l0 | exact LLe.refl _ | exact lle_none | refine lle_up ?_ rfl)) (fun _ _ hh hl => lo_load1 (i := 0) (v := .int _ _) rfl ag25 (hl _ _ rfl) rfl) ?_
    have := outNum_len (outText (outNum (outNum (⟨[], 0⟩ : Out) d.kind 1) d.tick 8) d.name) d.id 8
    refine vw_qc 6 rfl (by kernel_rfl) (by repeat (first | exact lle_l0 | exact LLe.refl _ | exact lle_none | refine lle_up ?_ rfl)) (out_Num _ (outText (outNum (outNum (⟨[], 0⟩ : Out) d.kind 1) d.tick 8) d.name) d.id (by omega) 8 (by omega) (by first | omega | (have := hrl (by assumption); omega) | (simp [outNum, outRaw, numB_len, numK] <;> omega) | (have := hrl (by assumption); simp [outNum, outRaw, numB_len, numK] <;> omega))) (en_f cb107 rfl) ?_
    refine vw_q 7 rfl (by kernel_rfl) (by repeat (first | exact lle_l0 | exact LLe.refl _ | exact lle_none | refine lle_up ?_ rfl)) (fun _ _ hh hl => lo_fieldAddr rfl fl60_7) ?_
    refine vw_q 8 rfl (by kernel_rfl) (by repeat (first | exact lle_l0 | exact LLe.refl _ | exact lle_none | refine lle_up ?_ rfl)) (fun _ _ hh hl => lo_load1 (i := 0) (v := .int _ _) rfl ag5 (hl _ _ rfl) rfl) ?_
    refine vw_q 9 rfl (by kernel_rfl) (by repeat (first | exact lle_l0 | exact LLe.refl _ | exact lle_none | refine lle_up ?_ rfl)) (fun _ _ hh hl => lo_conv_in rfl (by rw [Tryz.underlying5]; rfl) Tryz.underlying25 (rg_u64 (by omega))) ?_
    have := outNum_len (outNum (outText (outNum (outNum (⟨[], 0⟩ : Out) d.kind 1) d.tick 8) d.name) d.id 8) d.how 1
    refine vw_qc 10 rfl (by kernel_rfl) (by repeat (first | exact lle_l0 | exact LLe.refl _ | exact lle_none | refine lle_up ?_ rfl)) (out_Num _ (outNum (outText (outNum (outNum (⟨[], 0⟩ : Out) d.kind 1) d.tick 8) d.name) d.id 8) d.how (by omega) 1 (by omega) (by first | omega | (have := hrl (by assumption); omega) | (simp [outNum, outRaw, numB_len, numK] <;> omega) | (have := hrl (by assumption); simp [outNum, outRaw, numB_len, numK] <;> omega))) (en_f cb107 rfl) ?_
    refine vw_t 11 rfl (by kernel_rfl) (by kernel_rfl) (op1_storeAll (i := 1) (vs := [_, _]) rfl rfl rfl sz176 rfl rfl rfl ?_)
    refine vw_done (by kernel_rfl) (blkK_n (seqK_n (cw_seq (cw_region (ol rfl (lo_loadA (i := 1) (vs := [_, _]) rfl ag176 sz176 rfl rfl rfl) ?_)))))
    refine ow1 (op1_pr (out_String _ (outNum (outNum (outText (outNum (outNum (⟨[], 0⟩ : Out) d.kind 1) d.tick 8) d.name) d.id 8) d.how 1)) (en_f cb113 rfl) rfl ?_)
    refine ol rfl (lo_assign (v := str _) rfl) (oai rfl rfl (ow_nil (seqK_n (cw_ret (fnK_r (res2 rfl (rv_t (v := str _) rfl) (rv_t (v := .int _ _) rfl)) (.refl _) ?_)))))
    have e : deedBytes d = (outNum (outNum (outText (outNum (outNum (⟨[], 0⟩ : Out) d.kind 1) d.tick 8) d.name) d.id 8) d.how 1).s := by
      unfold deedBytes
      first
        | (rw [if_neg (by assumption)]; done)
        | (rw [if_pos (by assumption)]; unfold deedOut; (repeat (first | rw [if_pos (by omega)] | rw [if_neg (by omega)] | rw [if_pos (by assumption)] | rw [if_neg (by assumption)] | rw [if_neg (fun q => q (by assumption))])); first | done | rfl)
    rw [e]
    try (rw [show deedE d = 0 by assumption])
  have p36 := df h34
  refine cw_seq (cw_region (ol rfl (lo_eql rfl rfl) (oab rfl rfl (ow_nil (seqK_n ?_)))))
  refine cw_cond rfl (fun h37 => ?_) (fun h37 => ?_)
  · have p38 := dt h37
    refine cw_anyL mixd (vw_q 0 rfl (by kernel_rfl) (by repeat (first | exact lle_l0 | exact LLe.refl _ | exact lle_none | refine lle_up ?_ rfl)) (fun _ _ hh hl => lo_loadA (i := 1) (vs := [_, _]) rfl ag176 sz176 (hl _ _ rfl) rfl rfl) ?_)
    refine vw_q 1 rfl (by kernel_rfl) (by repeat (first | exact lle_l0 | exact LLe.refl _ | exact lle_none | refine lle_up ?_ rfl)) (fun _ _ hh hl => lo_fieldAddr rfl fl60_8) ?_
    refine vw_q 2 rfl (by kernel_rfl) (by repeat (first | exact lle_l0 | exact LLe.refl _ | exact lle_none | refine lle_up ?_ rfl)) (fun _ _ hh hl => lo_load1 (i := 0) (v := .int _ _) rfl ag5 (hl _ _ rfl) rfl) ?_
    refine vw_q 3 rfl (by kernel_rfl) (by repeat (first | exact lle_l0 | exact LLe.refl _ | exact lle_none | refine lle_up ?_ rfl)) (fun _ _ hh hl => lo_conv_in rfl (by rw [Tryz.underlying5]; rfl) Tryz.underlying25 (rg_u64 (by omega))) ?_
    have := outNum_len (outNum (outNum (⟨[], 0⟩ : Out) d.kind 1) d.tick 8) d.frm 1
    refine vw_qc 4 rfl (by kernel_rfl) (by repeat (first | exact lle_l0 | exact LLe.refl _ | exact lle_none | refine lle_up ?_ rfl)) (out_Num _ (outNum (outNum (⟨[], 0⟩ : Out) d.kind 1) d.tick 8) d.frm (by omega) 1 (by omega) (by first | omega | (have := hrl (by assumption); omega) | (simp [outNum, outRaw, numB_len, numK] <;> omega) | (have := hrl (by assumption); simp [outNum, outRaw, numB_len, numK] <;> omega))) (en_f cb107 rfl) ?_
    refine vw_q 5 rfl (by kernel_rfl) (by repeat (first | exact lle_l0 | exact LLe.refl _ | exact lle_none | refine lle_up ?_ rfl)) (fun _ _ hh hl => lo_fieldAddr rfl fl60_10) ?_
    refine vw_q 6 rfl (by kernel_rfl) (by repeat (first | exact lle_l0 | exact LLe.refl _ | exact lle_none | refine lle_up ?_ rfl)) (fun _ _ hh hl => lo_load1 (i := 0) (v := .int _ _) rfl ag25 (hl _ _ rfl) rfl) ?_
    have := outNum_len (outNum (outNum (outNum (⟨[], 0⟩ : Out) d.kind 1) d.tick 8) d.frm 1) d.number 8
    refine vw_qc 7 rfl (by kernel_rfl) (by repeat (first | exact lle_l0 | exact LLe.refl _ | exact lle_none | refine lle_up ?_ rfl)) (out_Num _ (outNum (outNum (outNum (⟨[], 0⟩ : Out) d.kind 1) d.tick 8) d.frm 1) d.number (by omega) 8 (by omega) (by first | omega | (have := hrl (by assumption); omega) | (simp [outNum, outRaw, numB_len, numK] <;> omega) | (have := hrl (by assumption); simp [outNum, outRaw, numB_len, numK] <;> omega))) (en_f cb107 rfl) ?_
    refine vw_q 8 rfl (by kernel_rfl) (by repeat (first | exact lle_l0 | exact LLe.refl _ | exact lle_none | refine lle_up ?_ rfl)) (fun _ _ hh hl => lo_move (v := str _) rfl) ?_
    have := outRaw_len (outNum (outNum (outNum (outNum (⟨[], 0⟩ : Out) d.kind 1) d.tick 8) d.frm 1) d.number 8) (mailBytes d.mail)
    refine vw_qc 9 rfl (by kernel_rfl) (by repeat (first | exact lle_l0 | exact LLe.refl _ | exact lle_none | refine lle_up ?_ rfl)) (out_Raw _ (outNum (outNum (outNum (outNum (⟨[], 0⟩ : Out) d.kind 1) d.tick 8) d.frm 1) d.number 8) (mailBytes d.mail) (by first | omega | (have := hrl (by assumption); omega) | (simp [outNum, outRaw, numB_len, numK] <;> omega) | (have := hrl (by assumption); simp [outNum, outRaw, numB_len, numK] <;> omega))) (en_f cb112 rfl) ?_
    refine vw_t 10 rfl (by kernel_rfl) (by kernel_rfl) (op1_storeAll (i := 1) (vs := [_, _]) rfl rfl rfl sz176 rfl rfl rfl ?_)
    refine vw_done (by kernel_rfl) (blkK_n (seqK_n (cw_seq (cw_region (ol rfl (lo_loadA (i := 1) (vs := [_, _]) rfl ag176 sz176 rfl rfl rfl) ?_)))))
    refine ow1 (op1_pr (out_String _ (outRaw (outNum (outNum (outNum (outNum (⟨[], 0⟩ : Out) d.kind 1) d.tick 8) d.frm 1) d.number 8) (mailBytes d.mail))) (en_f cb113 rfl) rfl ?_)
    refine ol rfl (lo_assign (v := str _) rfl) (oai rfl rfl (ow_nil (seqK_n (cw_ret (fnK_r (res2 rfl (rv_t (v := str _) rfl) (rv_t (v := .int _ _) rfl)) (.refl _) ?_)))))
    have e : deedBytes d = (outRaw (outNum (outNum (outNum (outNum (⟨[], 0⟩ : Out) d.kind 1) d.tick 8) d.frm 1) d.number 8) (mailBytes d.mail)).s := by
      unfold deedBytes
      first
        | (rw [if_neg (by assumption)]; done)
        | (rw [if_pos (by assumption)]; unfold deedOut; (repeat (first | rw [if_pos (by omega)] | rw [if_neg (by omega)] | rw [if_pos (by assumption)] | rw [if_neg (by assumption)] | rw [if_neg (fun q => q (by assumption))])); first | done | rfl)
    rw [e]
    try (rw [show deedE d = 0 by assumption])
  have p39 := df h37
  refine cw_seq (cw_region (ol rfl (lo_eql rfl rfl) (oab rfl rfl (ow_nil (seqK_n ?_)))))
  refine cw_cond rfl (fun h40 => ?_) (fun h40 => ?_)
  · have p41 := dt h40
    refine cw_anyL mixd (vw_q 0 rfl (by kernel_rfl) (by repeat (first | exact lle_l0 | exact LLe.refl _ | exact lle_none | refine lle_up ?_ rfl)) (fun _ _ hh hl => lo_loadA (i := 1) (vs := [_, _]) rfl ag176 sz176 (hl _ _ rfl) rfl rfl) ?_)
    refine vw_q 1 rfl (by kernel_rfl) (by repeat (first | exact lle_l0 | exact LLe.refl _ | exact lle_none | refine lle_up ?_ rfl)) (fun _ _ hh hl => lo_fieldAddr rfl fl60_9) ?_
    refine vw_q 2 rfl (by kernel_rfl) (by repeat (first | exact lle_l0 | exact LLe.refl _ | exact lle_none | refine lle_up ?_ rfl)) (fun _ _ hh hl => lo_load1 (i := 0) (v := .int _ _) rfl ag5 (hl _ _ rfl) rfl) ?_
    refine vw_q 3 rfl (by kernel_rfl) (by repeat (first | exact lle_l0 | exact LLe.refl _ | exact lle_none | refine lle_up ?_ rfl)) (fun _ _ hh hl => lo_conv_in rfl (by rw [Tryz.underlying5]; rfl) Tryz.underlying25 (rg_u64 (by omega))) ?_
    have := outNum_len (outNum (outNum (⟨[], 0⟩ : Out) d.kind 1) d.tick 8) d.code 1
    refine vw_qc 4 rfl (by kernel_rfl) (by repeat (first | exact lle_l0 | exact LLe.refl _ | exact lle_none | refine lle_up ?_ rfl)) (out_Num _ (outNum (outNum (⟨[], 0⟩ : Out) d.kind 1) d.tick 8) d.code (by omega) 1 (by omega) (by first | omega | (have := hrl (by assumption); omega) | (simp [outNum, outRaw, numB_len, numK] <;> omega) | (have := hrl (by assumption); simp [outNum, outRaw, numB_len, numK] <;> omega))) (en_f cb107 rfl) ?_
    refine vw_q 5 rfl (by kernel_rfl) (by repeat (first | exact lle_l0 | exact LLe.refl _ | exact lle_none | refine lle_up ?_ rfl)) (fun _ _ hh hl => lo_fieldAddr rfl fl60_12) ?_
    refine vw_q 6 rfl (by kernel_rfl) (by repeat (first | exact lle_l0 | exact LLe.refl _ | exact lle_none | refine lle_up ?_ rfl)) (fun _ _ hh hl => lo_load1 (i := 0) (v := str _) rfl ag9 (hl _ _ rfl) rfl) ?_
    have := outText_len (outNum (outNum (outNum (⟨[], 0⟩ : Out) d.kind 1) d.tick 8) d.code 1) d.text
    refine vw_qc 7 rfl (by kernel_rfl) (by repeat (first | exact lle_l0 | exact LLe.refl _ | exact lle_none | refine lle_up ?_ rfl)) (out_Text _ (outNum (outNum (outNum (⟨[], 0⟩ : Out) d.kind 1) d.tick 8) d.code 1) d.text (by first | omega | (have := hrl (by assumption); omega) | (simp [outNum, outRaw, numB_len, numK] <;> omega) | (have := hrl (by assumption); simp [outNum, outRaw, numB_len, numK] <;> omega))) (en_f cb109 rfl) ?_
    refine vw_t 8 rfl (by kernel_rfl) (by kernel_rfl) (op1_storeAll (i := 1) (vs := [_, _]) rfl rfl rfl sz176 rfl rfl rfl ?_)
    refine vw_done (by kernel_rfl) (blkK_n (seqK_n (cw_seq (cw_region (ol rfl (lo_loadA (i := 1) (vs := [_, _]) rfl ag176 sz176 rfl rfl rfl) ?_)))))
    refine ow1 (op1_pr (out_String _ (outText (outNum (outNum (outNum (⟨[], 0⟩ : Out) d.kind 1) d.tick 8) d.code 1) d.text)) (en_f cb113 rfl) rfl ?_)
    refine ol rfl (lo_assign (v := str _) rfl) (oai rfl rfl (ow_nil (seqK_n (cw_ret (fnK_r (res2 rfl (rv_t (v := str _) rfl) (rv_t (v := .int _ _) rfl)) (.refl _) ?_)))))
    have e : deedBytes d = (outText (outNum (outNum (outNum (⟨[], 0⟩ : Out) d.kind 1) d.tick 8) d.code 1) d.text).s := by
      unfold deedBytes
      first
        | (rw [if_neg (by assumption)]; done)
        | (rw [if_pos (by assumption)]; unfold deedOut; (repeat (first | rw [if_pos (by omega)] | rw [if_neg (by omega)] | rw [if_pos (by assumption)] | rw [if_neg (by assumption)] | rw [if_neg (fun q => q (by assumption))])); first | done | rfl)
    rw [e]
    try (rw [show deedE d = 0 by assumption])
  have p42 := df h40
  refine cw_skip (blkK_n (seqK_n (cw_seq (cw_region (ol rfl (lo_loadA (i := 1) (vs := [_, _]) rfl ag176 sz176 rfl rfl rfl) ?_)))))
  refine ow1 (op1_pr (out_String _ (outNum (outNum (⟨[], 0⟩ : Out) d.kind 1) d.tick 8)) (en_f cb113 rfl) rfl ?_)
  refine ol rfl (lo_assign (v := str _) rfl) (oai rfl rfl (ow_nil (seqK_n (cw_ret (fnK_r (res2 rfl (rv_t (v := str _) rfl) (rv_t (v := .int _ _) rfl)) (.refl _) ?_)))))
  have e : deedBytes d = (outNum (outNum (⟨[], 0⟩ : Out) d.kind 1) d.tick 8).s := by
    unfold deedBytes
    first
      | (rw [if_neg (by assumption)]; done)
      | (rw [if_pos (by assumption)]; unfold deedOut; (repeat (first | rw [if_pos (by omega)] | rw [if_neg (by omega)] | rw [if_pos (by assumption)] | rw [if_neg (by assumption)] | rw [if_neg (fun q => q (by assumption))])); first | done | rfl)
  rw [e]
  try (rw [show deedE d = 0 by assumption])
end Go.SW
