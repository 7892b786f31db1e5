/-
  A part of the proof of DeedPacks: The walks of this seat, printed by program: stairwellref22.checkBind, stairwellref13.Check, stairwellref22.Check. The walks of this seat, printed by program: stairwellref13.Bytes, stairwellref22.Bytes. The walks of this seat, printed by program: stairwelllaw13.Light, stairwelllaw22.Light, stairwelllaw14.To, stairwelllaw22.To. The walks of this seat, printed by program: slices.Equal[[]string,string], slices.Index[[]string,string], slices.Contains[[]string,string], route.Shop.check, route.Book.Shop. The walks of this seat, printed by program: route.Shop], route.Bind]. The walks of this seat, printed by program: route.Book.Make. The walks of this seat, printed by program: route.Bind.rule, route.Bind.same, route.Bind.clone, route.Book.there.
-/
import Derived.Test.YtdjkbpmciibafaaGreatDoorProg
import Derived.Test.YtdjkbpmciibafaaGreatDoorDeedPacksP2
import Derived.KernelRfl
import Derived.Test.YtdjkbpmciibafaaGreatDoorDeedPacksP5
set_option linter.unusedVariables false
set_option linter.unusedSimpArgs false
set_option linter.unusedVariables false
set_option maxRecDepth 100000
set_option maxHeartbeats 4000000
namespace Go.SW
open Go.Proofs
theorem ag66 : Ag Tryz.prog 66 true := fun w => by kernel_rfl
theorem cb103 : Callable Tryz.prog 103 := callable_of Tryz.func103 (by kernel_rfl) (by kernel_rfl)
theorem cb104 : Callable Tryz.prog 104 := callable_of Tryz.func104 (by kernel_rfl) (by kernel_rfl)
theorem cb105 : Callable Tryz.prog 105 := callable_of Tryz.func105 (by kernel_rfl) (by kernel_rfl)
theorem cb68 : Callable Tryz.prog 68 := callable_of Tryz.func68 (by kernel_rfl) (by kernel_rfl)
theorem fl62_0 : Fld Tryz.prog 62 0 0 := fun b o w => by kernel_rfl
theorem fl62_1 : Fld Tryz.prog 62 1 1 := fun b o w => by kernel_rfl
theorem fl62_2 : Fld Tryz.prog 62 2 2 := fun b o w => by kernel_rfl
theorem fl63_0 : Fld Tryz.prog 63 0 0 := fun b o w => by kernel_rfl
theorem fl63_3 : Fld Tryz.prog 63 3 3 := fun b o w => by kernel_rfl
theorem sz66 : Sz Tryz.prog 66 29 := fun w => by kernel_rfl
theorem r22_checkBind (H : Hp) (b : BindR) (b_want_a : Option Addr) (b_want_c : Nat) (b_want_h : SlH pairE 4 H (.slice b_want_a b.want.length b_want_c) b.want) (b_w : BindR.wf b) : Pr Tryz.prog 105 #[.agg (BindR.cells b b_want_a b_want_c).toArray] H (.int .i64 (firstE [nameE b.shop, nameE b.to, boundE (decide ((64 : Int) < b.key.length)) 5, headE b.want])) := by
  refine pr_cw Tryz.func105 rfl Tryz.ntmps105 rfl (fun N => ?_)
  have b_w' := b_w
  simp only [BindR.wf] at b_w'
  refine cw_seq (cw_region (ow1 (op1_box (cs := [_, _, _, _, _, _]) 0 rfl rfl (fun b1 => ?_))))
  refine oai rfl rfl (ow_nil (seqK_n (cw_seq (cw_region (ol rfl (lo_fieldAddr rfl fl64_0) ?_)))))
  refine ol rfl (lo_load1 (i := 0) (v := str _) rfl ag9 rfl rfl) ?_
  refine ow1 (op1_pr (r4_Name _ b.shop (by first | omega | decide | (simp; done))) (en_f cb86 rfl) rfl ?_)
  refine oai rfl rfl (ow_nil (seqK_n (cw_seq (cw_seq (cw_region ?_)))))
  refine omi rfl rfl (ol rfl (lo_eql rfl rfl) (ow_nil (seqK_n (cw_cond rfl (fun h2 => ?_) (fun h2 => ?_)))))
  · have p3 := dt h2
    refine cw_region (ol rfl (lo_fieldAddr rfl fl64_1) (ol rfl (lo_load1 (i := 0) (v := str _) rfl ag9 rfl rfl) ?_))
    refine ow1 (op1_pr (r4_Name _ b.to (by first | omega | decide | (simp; done))) (en_f cb86 rfl) rfl ?_)
    refine oai rfl rfl (ow_nil (seqK_n (cw_seq (cw_seq (cw_region ?_)))))
    refine omi rfl rfl (ol rfl (lo_eql rfl rfl) (omb rfl rfl (ow_sp (j := 2) rfl (fun h4 => ?_) (fun h4 => ?_))))
    · have p5 := dt h4
      refine ow1 (op1_g rfl h4 rfl (lo_fieldAddr rfl fl64_3) ?_)
      refine ow1 (op1_g rfl h4 rfl (lo_load1 (i := 0) (v := str _) rfl ag9 rfl rfl) ?_)
      refine ow1 (op1_g rfl h4 rfl (lo_len_str rfl Tryz.underlying9) ?_)
      refine ow1 (op1_g rfl h4 rfl (lo_gtr rfl rfl) ?_)
      refine ol rfl (lo_pick_t (v := .bool _) rfl h4 rfl) (ow_nil (seqK_n (cw_cond rfl (fun h6 => ?_) (fun h6 => ?_))))
      · have p7 := dt h6
        refine cw_region (oai rfl rfl (ow_nil (seqK_n (cw_seq (cw_seq ?_)))))
        refine cw_region (omi rfl rfl (ol rfl (lo_eql rfl rfl) (ow_nil (seqK_n (cw_cond_f rfl (by decide) ?_)))))
        refine cw_skip (seqK_n (cw_seq (cw_region (omi rfl rfl (oai rfl rfl ?_)))))
        refine ow_nil (seqK_n (cw_ret (fnK_r (res1 rfl (rv_t (v := .int _ _) rfl)) (.refl _) (congrArg (Value.int .i64) ?_))))
        simp [firstE, boundE, *]
      have p8 := df h6
      refine cw_skip (seqK_n (cw_seq (cw_seq (cw_region (omi rfl rfl ?_)))))
      refine ol rfl (lo_eql rfl rfl) (ow_nil (seqK_n (cw_cond_t rfl h4 (cw_region (ol rfl (lo_fieldAddr rfl fl64_4) ?_)))))
      refine ol rfl (lo_load1 (i := 0) (v := .slice _ _ _) rfl ag26 rfl rfl) ?_
      refine ow1 (op1_pr (r9_Check _ b_want_a b.want.length b_want_c b.want b_want_h) (en_f cb88 rfl) rfl ?_)
      refine oai rfl rfl (ow_nil (seqK_n (cw_seq (cw_region (omi rfl rfl ?_)))))
      refine oai rfl rfl (ow_nil (seqK_n (cw_ret (fnK_r (res1 rfl (rv_t (v := .int _ _) rfl)) (.refl _) (congrArg (Value.int .i64) ?_)))))
      simp [firstE, boundE, *]
    have p9 := df h4
    refine og rfl h4 rfl (og rfl h4 rfl (og rfl h4 rfl (og rfl h4 rfl (ol rfl (lo_pick_f (v := .bool _) rfl h4 rfl) (ow_nil ?_)))))
    refine seqK_n (cw_cond_f rfl rfl (cw_skip (seqK_n (cw_seq (cw_seq ?_)))))
    refine cw_region (omi rfl rfl (ol rfl (lo_eql rfl rfl) (ow_nil (seqK_n (cw_cond_f rfl h4 ?_)))))
    refine cw_skip (seqK_n (cw_seq (cw_region (omi rfl rfl (oai rfl rfl ?_)))))
    refine ow_nil (seqK_n (cw_ret (fnK_r (res1 rfl (rv_t (v := .int _ _) rfl)) (.refl _) (congrArg (Value.int .i64) ?_))))
    simp [firstE, boundE, *]
  have p10 := df h2
  refine cw_skip (seqK_n (cw_seq (cw_seq (cw_region (omi rfl rfl ?_)))))
  refine ol rfl (lo_eql rfl rfl) (omb rfl rfl (og rfl h2 rfl (og rfl h2 rfl (og rfl h2 rfl (og rfl h2 rfl ?_)))))
  refine ol rfl (lo_pick_f (v := .bool _) rfl h2 rfl) (ow_nil (seqK_n (cw_cond_f rfl rfl (cw_skip (seqK_n ?_)))))
  refine cw_seq (cw_seq (cw_region (omi rfl rfl (ol rfl (lo_eql rfl rfl) (ow_nil ?_)))))
  refine seqK_n (cw_cond_f rfl h2 (cw_skip (seqK_n (cw_seq (cw_region ?_)))))
  refine omi rfl rfl (oai rfl rfl (ow_nil (seqK_n (cw_ret (fnK_r (res1 rfl (rv_t (v := .int _ _) rfl)) (.refl _) ?_)))))
  refine congrArg (Value.int .i64) ?_
  simp [firstE, boundE, *]
theorem r13_Check (H : Hp) (m : Mail) (m_head_a : Option Addr) (m_head_c : Nat) (m_head_h : SlH pairE 4 H (.slice m_head_a m.head.length m_head_c) m.head) (m_w : Mail.wf m) : Pr Tryz.prog 68 #[.agg (Mail.cells m m_head_a m_head_c).toArray] H (.int .i64 (mailC m)) := by
  refine pr_cw Tryz.func68 rfl Tryz.ntmps68 rfl (fun N => ?_)
  have m_w' := m_w
  simp only [Mail.wf] at m_w'
  refine cw_seq (cw_region (ow1 (op1_box (cs := [_, _, _, _, _, _, _]) 0 rfl rfl (fun b1 => ?_))))
  refine oai rfl rfl (ow_nil (seqK_n (cw_seq (cw_region (ol rfl (lo_fieldAddr rfl fl28_1) ?_)))))
  refine ol rfl (lo_load1 (i := 0) (v := str _) rfl ag9 rfl rfl) ?_
  refine ow1 (op1_pr (r4_Name _ m.shop (by first | omega | decide | (simp; done))) (en_f cb86 rfl) rfl ?_)
  refine oai rfl rfl (ow_nil (seqK_n (cw_seq (cw_seq (cw_region ?_)))))
  refine omi rfl rfl (ol rfl (lo_eql rfl rfl) (ow_nil (seqK_n (cw_cond rfl (fun h2 => ?_) (fun h2 => ?_)))))
  · have p3 := dt h2
    refine cw_region (ol rfl (lo_fieldAddr rfl fl28_2) (ol rfl (lo_load1 (i := 0) (v := str _) rfl ag9 rfl rfl) ?_))
    refine ow1 (op1_pr (r4_Key _ m.key false) (en_f cb87 rfl) rfl ?_)
    refine oai rfl rfl (ow_nil (seqK_n (cw_seq (cw_seq (cw_region ?_)))))
    refine omi rfl rfl (ol rfl (lo_eql rfl rfl) (ow_nil (seqK_n (cw_cond rfl (fun h4 => ?_) (fun h4 => ?_)))))
    · have p5 := dt h4
      refine cw_region (ol rfl (lo_fieldAddr rfl fl28_3) (ol rfl (lo_load1 (i := 0) (v := .slice _ _ _) rfl ag26 rfl rfl) ?_))
      refine ow1 (op1_pr (r9_Check _ m_head_a m.head.length m_head_c m.head m_head_h) (en_f cb88 rfl) rfl ?_)
      refine oai rfl rfl (ow_nil (seqK_n (cw_seq (cw_seq (cw_region ?_)))))
      refine omi rfl rfl (ol rfl (lo_eql rfl rfl) (omb rfl rfl (ow_sp (j := 2) rfl (fun h6 => ?_) (fun h6 => ?_))))
      · have p7 := dt h6
        refine ow1 (op1_g rfl h6 rfl (lo_fieldAddr rfl fl28_4) ?_)
        refine ow1 (op1_g rfl h6 rfl (lo_load1 (i := 0) (v := str _) rfl ag9 rfl rfl) ?_)
        refine ow1 (op1_g rfl h6 rfl (lo_len_str rfl Tryz.underlying9) ?_)
        refine ow1 (op1_g rfl h6 rfl (lo_gtr rfl rfl) ?_)
        refine ol rfl (lo_pick_t (v := .bool _) rfl h6 rfl) (ow_nil (seqK_n (cw_cond rfl (fun h8 => ?_) (fun h8 => ?_))))
        · have p9 := dt h8
          refine cw_region (oai rfl rfl (ow_nil (seqK_n (cw_seq (cw_seq ?_)))))
          refine cw_region (omi rfl rfl (ol rfl (lo_eql rfl rfl) (omb rfl rfl ?_)))
          refine ow1 (op1_gs rfl (by decide) rfl ?_)
          refine ow1 (op1_gs rfl (by decide) rfl ?_)
          refine ow1 (op1_gs rfl (by decide) rfl ?_)
          refine ol rfl (lo_pick_f (v := .bool _) rfl (by decide) rfl) (ow_nil (seqK_n (cw_cond_f rfl rfl (cw_skip (seqK_n ?_)))))
          refine cw_seq (cw_region (omi rfl rfl (oai rfl rfl (ow_nil (seqK_n ?_)))))
          refine cw_ret (fnK_r (res1 rfl (rv_t (v := .int _ _) rfl)) (.refl _) ?_)
          have hbo : besidesOf false = [] := rfl
          simp only [hbo] at *
          refine congrArg (Value.int .i64) ?_
          unfold mailC
          (repeat (first | rw [if_pos (by omega)] | rw [if_neg (by omega)] | rw [if_pos (by assumption)] | rw [if_neg (by assumption)] | rw [if_neg (fun q => q (by assumption))]))
          all_goals first | done | rfl | omega
        have p10 := df h8
        refine cw_skip (seqK_n (cw_seq (cw_seq (cw_region (omi rfl rfl ?_)))))
        refine ol rfl (lo_eql rfl rfl) (omb rfl rfl ?_)
        refine ow1 (op1_g rfl h6 rfl (lo_fieldAddr rfl fl28_6) ?_)
        refine ow1 (op1_g rfl h6 rfl (lo_load1 (i := 0) (v := .int _ _) rfl ag5 rfl rfl) ?_)
        refine ow1 (op1_g rfl h6 rfl (lo_gtr rfl rfl) ?_)
        refine ol rfl (lo_pick_t (v := .bool _) rfl h6 rfl) (ow_nil (seqK_n (cw_cond rfl (fun h11 => ?_) (fun h11 => ?_))))
        · have p12 := dt h11
          refine cw_region (oai rfl rfl (ow_nil (seqK_n (cw_seq (cw_region ?_)))))
          refine omi rfl rfl (oai rfl rfl (ow_nil (seqK_n (cw_ret (fnK_r (res1 rfl (rv_t (v := .int _ _) rfl)) (.refl _) ?_)))))
          have hbo : besidesOf false = [] := rfl
          simp only [hbo] at *
          refine congrArg (Value.int .i64) ?_
          unfold mailC
          (repeat (first | rw [if_pos (by omega)] | rw [if_neg (by omega)] | rw [if_pos (by assumption)] | rw [if_neg (by assumption)] | rw [if_neg (fun q => q (by assumption))]))
          all_goals first | done | rfl | omega
        have p13 := df h11
        refine cw_skip (seqK_n (cw_seq (cw_region (omi rfl rfl (oai rfl rfl ?_)))))
        refine ow_nil (seqK_n (cw_ret (fnK_r (res1 rfl (rv_t (v := .int _ _) rfl)) (.refl _) ?_)))
        have hbo : besidesOf false = [] := rfl
        simp only [hbo] at *
        refine congrArg (Value.int .i64) ?_
        unfold mailC
        (repeat (first | rw [if_pos (by omega)] | rw [if_neg (by omega)] | rw [if_pos (by assumption)] | rw [if_neg (by assumption)] | rw [if_neg (fun q => q (by assumption))]))
        all_goals first | done | rfl | omega
      have p14 := df h6
      refine og rfl h6 rfl (og rfl h6 rfl (og rfl h6 rfl (og rfl h6 rfl (ol rfl (lo_pick_f (v := .bool _) rfl h6 rfl) (ow_nil ?_)))))
      refine seqK_n (cw_cond_f rfl rfl (cw_skip (seqK_n (cw_seq (cw_seq ?_)))))
      refine cw_region (omi rfl rfl (ol rfl (lo_eql rfl rfl) (omb rfl rfl (og rfl h6 rfl (og rfl h6 rfl ?_)))))
      refine og rfl h6 rfl (ol rfl (lo_pick_f (v := .bool _) rfl h6 rfl) (ow_nil (seqK_n (cw_cond_f rfl rfl (cw_skip ?_)))))
      refine seqK_n (cw_seq (cw_region (omi rfl rfl (oai rfl rfl (ow_nil ?_)))))
      refine seqK_n (cw_ret (fnK_r (res1 rfl (rv_t (v := .int _ _) rfl)) (.refl _) ?_))
      have hbo : besidesOf false = [] := rfl
      simp only [hbo] at *
      refine congrArg (Value.int .i64) ?_
      unfold mailC
      (repeat (first | rw [if_pos (by omega)] | rw [if_neg (by omega)] | rw [if_pos (by assumption)] | rw [if_neg (by assumption)] | rw [if_neg (fun q => q (by assumption))]))
      all_goals first | done | rfl | omega
    have p15 := df h4
    refine cw_skip (seqK_n (cw_seq (cw_seq (cw_region (omi rfl rfl ?_)))))
    refine ol rfl (lo_eql rfl rfl) (omb rfl rfl (og rfl h4 rfl (og rfl h4 rfl (og rfl h4 rfl (og rfl h4 rfl ?_)))))
    refine ol rfl (lo_pick_f (v := .bool _) rfl h4 rfl) (ow_nil (seqK_n (cw_cond_f rfl rfl (cw_skip (seqK_n ?_)))))
    refine cw_seq (cw_seq (cw_region (omi rfl rfl (ol rfl (lo_eql rfl rfl) (omb rfl rfl ?_)))))
    refine og rfl h4 rfl (og rfl h4 rfl (og rfl h4 rfl (ol rfl (lo_pick_f (v := .bool _) rfl h4 rfl) (ow_nil (seqK_n ?_)))))
    refine cw_cond_f rfl rfl (cw_skip (seqK_n (cw_seq (cw_region (omi rfl rfl ?_)))))
    refine oai rfl rfl (ow_nil (seqK_n (cw_ret (fnK_r (res1 rfl (rv_t (v := .int _ _) rfl)) (.refl _) ?_))))
    have hbo : besidesOf false = [] := rfl
    simp only [hbo] at *
    refine congrArg (Value.int .i64) ?_
    unfold mailC
    (repeat (first | rw [if_pos (by omega)] | rw [if_neg (by omega)] | rw [if_pos (by assumption)] | rw [if_neg (by assumption)] | rw [if_neg (fun q => q (by assumption))]))
    all_goals first | done | rfl | omega
  have p16 := df h2
  refine cw_skip (seqK_n (cw_seq (cw_seq (cw_region (omi rfl rfl ?_)))))
  refine ol rfl (lo_eql rfl rfl) (ow_nil (seqK_n (cw_cond_f rfl h2 (cw_skip (seqK_n ?_)))))
  refine cw_seq (cw_seq (cw_region (omi rfl rfl (ol rfl (lo_eql rfl rfl) (omb rfl rfl ?_)))))
  refine og rfl h2 rfl (og rfl h2 rfl (og rfl h2 rfl (og rfl h2 rfl (ol rfl (lo_pick_f (v := .bool _) rfl h2 rfl) (ow_nil ?_)))))
  refine seqK_n (cw_cond_f rfl rfl (cw_skip (seqK_n (cw_seq (cw_seq ?_)))))
  refine cw_region (omi rfl rfl (ol rfl (lo_eql rfl rfl) (omb rfl rfl (og rfl h2 rfl (og rfl h2 rfl ?_)))))
  refine og rfl h2 rfl (ol rfl (lo_pick_f (v := .bool _) rfl h2 rfl) (ow_nil (seqK_n (cw_cond_f rfl rfl (cw_skip ?_)))))
  refine seqK_n (cw_seq (cw_region (omi rfl rfl (oai rfl rfl (ow_nil ?_)))))
  refine seqK_n (cw_ret (fnK_r (res1 rfl (rv_t (v := .int _ _) rfl)) (.refl _) ?_))
  have hbo : besidesOf false = [] := rfl
  simp only [hbo] at *
  refine congrArg (Value.int .i64) ?_
  unfold mailC
  (repeat (first | rw [if_pos (by omega)] | rw [if_neg (by omega)] | rw [if_pos (by assumption)] | rw [if_neg (by assumption)] | rw [if_neg (fun q => q (by assumption))]))
  all_goals first | done | rfl | omega
theorem r22_Check (H : Hp) (d : DeedR) (d_bind_want_a : Option Addr) (d_bind_want_c : Nat) (d_bind_want_h : SlH pairE 4 H (.slice d_bind_want_a d.bind.want.length d_bind_want_c) d.bind.want) (d_mail_head_a : Option Addr) (d_mail_head_c : Nat) (d_mail_head_h : SlH pairE 4 H (.slice d_mail_head_a d.mail.head.length d_mail_head_c) d.mail.head) (d_w : DeedR.wf d) : Pr Tryz.prog 32 #[.agg (DeedR.cells d d_bind_want_a d_bind_want_c d_mail_head_a d_mail_head_c).toArray] H (.int .i64 (deedE d)) := by
  refine pr_cw Tryz.func32 rfl Tryz.ntmps32 rfl (fun N => ?_)
  have d_w' := d_w
  simp only [DeedR.wf, ShopR.wf, QueueR.wf, BindR.wf, Mail.wf] at d_w'
  refine cw_seq (cw_region (ow1 (op1_box (cs := [_, _, _, _, _, _, _, _, _, _, _, _, _, _, _, _, _, _, _, _, _, _, _, _, _, _, _, _, _]) 0 rfl rfl (fun b1 => ?_))))
  refine oai rfl rfl (ow_nil (seqK_n (cw_seq (cw_seq (cw_region ?_)))))
  refine ol rfl (lo_fieldAddr rfl fl66_0) (ol rfl (lo_load1 (i := 0) (v := .int _ _) rfl ag5 rfl rfl) (ol rfl (lo_gtr rfl rfl) (ow_nil (seqK_n (cw_cond rfl (fun h2 => ?_) (fun h2 => ?_))))))
  · have p3 := dt h2
    refine cw_seq (cw_region (oai rfl rfl (ow_nil (seqK_n (cw_ret ?_)))))
    refine seqK_r (fnK_r (res1 rfl (rv_t (v := .int _ _) rfl)) (.refl _) (congrArg (Value.int .i64) ?_))
    unfold deedE
    (repeat (first | rw [if_pos (by omega)] | rw [if_neg (by omega)] | rw [if_pos (by assumption)] | rw [if_neg (by assumption)] | rw [if_neg (fun q => q (by assumption))]))
    all_goals first | done | rfl | omega | (simp only [firstE, boundE, h2, if_true, if_false, Bool.false_eq_true]; (repeat (first | rw [if_pos (by omega)] | rw [if_neg (by omega)] | rw [if_pos (by assumption)] | rw [if_neg (by assumption)] | rw [if_neg (fun q => q (by assumption))])); first | done | rfl | omega)
  have p4 := df h2
  refine cw_skip (seqK_n (cw_seq (cw_seq (cw_region (ol rfl (lo_loadA (i := 0) (vs := [_, _, _, _, _, _, _, _, _, _, _, _, _, _, _, _, _, _, _, _, _, _, _, _, _, _, _, _, _]) rfl ag66 sz66 rfl rfl rfl) ?_)))))
  refine ow1 (op1_pr (r22_spare _ d d_bind_want_a d_bind_want_c d_bind_want_h d_mail_head_a d_mail_head_c d_mail_head_h d_w) (en_f cb103 rfl) rfl ?_)
  refine ow_nil (seqK_n (cw_cond rfl (fun h5 => ?_) (fun h5 => ?_)))
  · have h6 := not_t h5
    have p7 := df h6
    refine cw_seq (cw_region (oai rfl rfl (ow_nil (seqK_n (cw_ret ?_)))))
    refine seqK_r (fnK_r (res1 rfl (rv_t (v := .int _ _) rfl)) (.refl _) (congrArg (Value.int .i64) ?_))
    unfold deedE
    (repeat (first | rw [if_pos (by omega)] | rw [if_neg (by omega)] | rw [if_pos (by assumption)] | rw [if_neg (by assumption)] | rw [if_neg (fun q => q (by assumption))]))
    all_goals first | done | rfl | omega | (simp only [firstE, boundE, h2, h5, h6, if_true, if_false, Bool.false_eq_true]; (repeat (first | rw [if_pos (by omega)] | rw [if_neg (by omega)] | rw [if_pos (by assumption)] | rw [if_neg (by assumption)] | rw [if_neg (fun q => q (by assumption))])); first | done | rfl | omega)
  have h8 := not_f h5
  have p9 := dt h8
  obtain ⟨t1, t2, t3, t4, t5, t6, t7, t8, t9, t10, t11⟩ := told_iff.1 p9
  refine cw_skip (seqK_n (cw_seq (cw_region (oai rfl rfl (ow_nil ?_)))))
  refine seqK_n (cw_seq (cw_seq (cw_region (ol rfl (lo_fieldAddr rfl fl66_0) (ol rfl (lo_load1 (i := 0) (v := .int _ _) rfl ag5 rfl rfl) ?_)))))
  refine ow_nil (seqK_n (cw_block (cw_seq (cw_region (ol rfl (lo_eql rfl rfl) ?_)))))
  refine oab rfl rfl (ow_nil (seqK_n (cw_cond rfl (fun h10 => ?_) (fun h10 => ?_))))
  · have p11 := dt h10
    refine cw_seq (cw_region (ol rfl (lo_fieldAddr rfl fl66_2) (ol rfl (lo_fieldAddr rfl fl62_0) (ol rfl (lo_load1 (i := 0) (v := str _) rfl ag9 rfl rfl) ?_))))
    refine ow1 (op1_pr (r4_Name _ d.shop.name (by first | omega | decide | (simp; done))) (en_f cb86 rfl) rfl ?_)
    refine oai rfl rfl (ow_nil (seqK_n (cw_seq (cw_seq (cw_region ?_)))))
    refine omi rfl rfl (ol rfl (lo_eql rfl rfl) (omb rfl rfl (ow_sp (j := 2) rfl (fun h12 => ?_) (fun h12 => ?_))))
    · have p13 := dt h12
      refine ow1 (op1_g rfl h12 rfl (lo_fieldAddr rfl fl66_2) ?_)
      refine ow1 (op1_g rfl h12 rfl (lo_fieldAddr rfl fl62_1) ?_)
      refine ow1 (op1_g rfl h12 rfl (lo_load1 (i := 0) (v := .int _ _) rfl ag5 rfl rfl) ?_)
      refine ow1 (op1_g rfl h12 rfl (lo_gtr rfl rfl) ?_)
      refine ol rfl (lo_pick_t (v := .bool _) rfl h12 rfl) (ow_nil (seqK_n (cw_cond rfl (fun h14 => ?_) (fun h14 => ?_))))
      · have p15 := dt h14
        refine cw_region (oai rfl rfl (ow_nil (seqK_n (cw_seq (cw_region ?_)))))
        refine omi rfl rfl (ol rfl (lo_eql rfl rfl) (ow_nil (seqK_n (cw_cond_f rfl (by decide) (cw_skip ?_)))))
        refine blkK_n (seqK_n (cw_seq (cw_seq (cw_region (ol rfl (lo_fieldAddr rfl fl66_0) ?_)))))
        refine ol rfl (lo_load1 (i := 0) (v := .int _ _) rfl ag5 rfl rfl) ?_
        refine ow1 (op1_pr (r22_names _ d.kind (by omega)) (en_f cb106 rfl) rfl ?_)
        refine ow_nil (seqK_n (cw_cond_f rfl (fd (by omega)) (cw_skip (seqK_n (cw_seq ?_)))))
        refine cw_seq (cw_region (omi rfl rfl (ol rfl (lo_eql rfl rfl) (omb rfl rfl ?_))))
        refine ow1 (op1_gs rfl (by decide) rfl ?_)
        refine ow1 (op1_gs rfl (by decide) rfl ?_)
        refine ow1 (op1_gs rfl (by decide) rfl ?_)
        refine ol rfl (lo_pick_f (v := .bool _) rfl (by decide) rfl) (ow_nil (seqK_n (cw_cond_f rfl rfl (cw_skip (seqK_n ?_)))))
        refine cw_seq (cw_region (omi rfl rfl (oai rfl rfl (ow_nil (seqK_n ?_)))))
        refine cw_ret (fnK_r (res1 rfl (rv_t (v := .int _ _) rfl)) (.refl _) (congrArg (Value.int .i64) ?_))
        unfold deedE
        (repeat (first | rw [if_pos (by omega)] | rw [if_neg (by omega)] | rw [if_pos (by assumption)] | rw [if_neg (by assumption)] | rw [if_neg (fun q => q (by assumption))]))
        all_goals first | done | rfl | omega | (simp only [firstE, boundE, h2, h5, h8, h10, h12, h14, if_true, if_false, Bool.false_eq_true]; (repeat (first | rw [if_pos (by omega)] | rw [if_neg (by omega)] | rw [if_pos (by assumption)] | rw [if_neg (by assumption)] | rw [if_neg (fun q => q (by assumption))])); first | done | rfl | omega)
      have p16 := df h14
      refine cw_skip (seqK_n (cw_seq (cw_region (omi rfl rfl (ol rfl (lo_eql rfl rfl) ?_)))))
      refine ow_nil (seqK_n (cw_cond_t rfl h12 (cw_region (ol rfl (lo_fieldAddr rfl fl66_2) (ol rfl (lo_fieldAddr rfl fl62_2) ?_)))))
      refine ol rfl (lo_load1 (i := 0) (v := str _) rfl ag9 rfl rfl) ?_
      refine ow1 (op1_pr (r22_maybe _ d.shop.to (by first | omega | decide | (simp; done))) (en_f cb104 rfl) rfl ?_)
      have := maybeE_r d.shop.to
      refine oai rfl rfl (ow_nil (blkK_n (seqK_n (cw_seq (cw_seq ?_)))))
      refine cw_region (ol rfl (lo_fieldAddr rfl fl66_0) (ol rfl (lo_load1 (i := 0) (v := .int _ _) rfl ag5 rfl rfl) ?_))
      refine ow1 (op1_pr (r22_names _ d.kind (by omega)) (en_f cb106 rfl) rfl ?_)
      refine ow_nil (seqK_n (cw_cond_f rfl (fd (by omega)) (cw_skip (seqK_n (cw_seq ?_)))))
      refine cw_seq (cw_region (omi rfl rfl (ol rfl (lo_eql rfl rfl) (omb rfl rfl (ow_sp (j := 2) rfl (fun h17 => ?_) (fun h17 => ?_))))))
      · have p18 := dt h17
        refine ow1 (op1_g rfl h17 rfl (lo_fieldAddr rfl fl66_7) ?_)
        refine ow1 (op1_g rfl h17 rfl (lo_load1 (i := 0) (v := .int _ _) rfl ag5 rfl rfl) ?_)
        refine ow1 (op1_g rfl h17 rfl (lo_gtr rfl rfl) ?_)
        refine ol rfl (lo_pick_t (v := .bool _) rfl h17 rfl) (ow_nil (seqK_n (cw_cond rfl (fun h19 => ?_) (fun h19 => ?_))))
        · have p20 := dt h19
          refine cw_region (oai rfl rfl (ow_nil (seqK_n (cw_seq (cw_region ?_)))))
          refine omi rfl rfl (oai rfl rfl (ow_nil (seqK_n (cw_ret (fnK_r (res1 rfl (rv_t (v := .int _ _) rfl)) (.refl _) ?_)))))
          refine congrArg (Value.int .i64) ?_
          unfold deedE
          (repeat (first | rw [if_pos (by omega)] | rw [if_neg (by omega)] | rw [if_pos (by assumption)] | rw [if_neg (by assumption)] | rw [if_neg (fun q => q (by assumption))]))
          all_goals first | done | rfl | omega | (simp only [firstE, boundE, h2, h5, h8, h10, h12, h14, h17, h19, if_true, if_false, Bool.false_eq_true]; (repeat (first | rw [if_pos (by omega)] | rw [if_neg (by omega)] | rw [if_pos (by assumption)] | rw [if_neg (by assumption)] | rw [if_neg (fun q => q (by assumption))])); first | done | rfl | omega)
        have p21 := df h19
        refine cw_skip (seqK_n (cw_seq (cw_region (omi rfl rfl (oai rfl rfl ?_)))))
        refine ow_nil (seqK_n (cw_ret (fnK_r (res1 rfl (rv_t (v := .int _ _) rfl)) (.refl _) (congrArg (Value.int .i64) ?_))))
        unfold deedE
        (repeat (first | rw [if_pos (by omega)] | rw [if_neg (by omega)] | rw [if_pos (by assumption)] | rw [if_neg (by assumption)] | rw [if_neg (fun q => q (by assumption))]))
        all_goals first | done | rfl | omega | (simp only [firstE, boundE, h2, h5, h8, h10, h12, h14, h17, h19, if_true, if_false, Bool.false_eq_true]; (repeat (first | rw [if_pos (by omega)] | rw [if_neg (by omega)] | rw [if_pos (by assumption)] | rw [if_neg (by assumption)] | rw [if_neg (fun q => q (by assumption))])); first | done | rfl | omega)
      have p22 := df h17
      refine og rfl h17 rfl (og rfl h17 rfl (og rfl h17 rfl (ol rfl (lo_pick_f (v := .bool _) rfl h17 rfl) (ow_nil (seqK_n ?_)))))
      refine cw_cond_f rfl rfl (cw_skip (seqK_n (cw_seq (cw_region (omi rfl rfl ?_)))))
      refine oai rfl rfl (ow_nil (seqK_n (cw_ret (fnK_r (res1 rfl (rv_t (v := .int _ _) rfl)) (.refl _) (congrArg (Value.int .i64) ?_)))))
      unfold deedE
      (repeat (first | rw [if_pos (by omega)] | rw [if_neg (by omega)] | rw [if_pos (by assumption)] | rw [if_neg (by assumption)] | rw [if_neg (fun q => q (by assumption))]))
      all_goals first | done | rfl | omega | (simp only [firstE, boundE, h2, h5, h8, h10, h12, h14, h17, if_true, if_false, Bool.false_eq_true]; (repeat (first | rw [if_pos (by omega)] | rw [if_neg (by omega)] | rw [if_pos (by assumption)] | rw [if_neg (by assumption)] | rw [if_neg (fun q => q (by assumption))])); first | done | rfl | omega)
    have p23 := df h12
    refine og rfl h12 rfl (og rfl h12 rfl (og rfl h12 rfl (og rfl h12 rfl (ol rfl (lo_pick_f (v := .bool _) rfl h12 rfl) (ow_nil ?_)))))
    refine seqK_n (cw_cond_f rfl rfl (cw_skip (seqK_n (cw_seq (cw_region ?_)))))
    refine omi rfl rfl (ol rfl (lo_eql rfl rfl) (ow_nil (seqK_n (cw_cond_f rfl h12 (cw_skip ?_)))))
    refine blkK_n (seqK_n (cw_seq (cw_seq (cw_region (ol rfl (lo_fieldAddr rfl fl66_0) ?_)))))
    refine ol rfl (lo_load1 (i := 0) (v := .int _ _) rfl ag5 rfl rfl) ?_
    refine ow1 (op1_pr (r22_names _ d.kind (by omega)) (en_f cb106 rfl) rfl ?_)
    refine ow_nil (seqK_n (cw_cond_f rfl (fd (by omega)) (cw_skip (seqK_n (cw_seq ?_)))))
    refine cw_seq (cw_region (omi rfl rfl (ol rfl (lo_eql rfl rfl) (omb rfl rfl (og rfl h12 rfl ?_)))))
    refine og rfl h12 rfl (og rfl h12 rfl (ol rfl (lo_pick_f (v := .bool _) rfl h12 rfl) (ow_nil (seqK_n (cw_cond_f rfl rfl ?_)))))
    refine cw_skip (seqK_n (cw_seq (cw_region (omi rfl rfl (oai rfl rfl ?_)))))
    refine ow_nil (seqK_n (cw_ret (fnK_r (res1 rfl (rv_t (v := .int _ _) rfl)) (.refl _) (congrArg (Value.int .i64) ?_))))
    unfold deedE
    (repeat (first | rw [if_pos (by omega)] | rw [if_neg (by omega)] | rw [if_pos (by assumption)] | rw [if_neg (by assumption)] | rw [if_neg (fun q => q (by assumption))]))
    all_goals first | done | rfl | omega | (simp only [firstE, boundE, h2, h5, h8, h10, h12, if_true, if_false, Bool.false_eq_true]; (repeat (first | rw [if_pos (by omega)] | rw [if_neg (by omega)] | rw [if_pos (by assumption)] | rw [if_neg (by assumption)] | rw [if_neg (fun q => q (by assumption))])); first | done | rfl | omega)
  have p24 := df h10
  refine cw_seq (cw_region (ol rfl (lo_eql rfl rfl) (oab rfl rfl (ow_nil (seqK_n ?_)))))
  refine cw_cond rfl (fun h25 => ?_) (fun h25 => ?_)
  · have p26 := dt h25
    refine cw_seq (cw_region (ol rfl (lo_fieldAddr rfl fl66_3) (ol rfl (lo_fieldAddr rfl fl63_0) (ol rfl (lo_load1 (i := 0) (v := str _) rfl ag9 rfl rfl) ?_))))
    refine ow1 (op1_pr (r4_Name _ d.queue.name (by first | omega | decide | (simp; done))) (en_f cb86 rfl) rfl ?_)
    refine oai rfl rfl (ow_nil (seqK_n (cw_seq (cw_region (omi rfl rfl ?_)))))
    refine ol rfl (lo_eql rfl rfl) (ow_nil (seqK_n (cw_cond rfl (fun h27 => ?_) (fun h27 => ?_))))
    · have p28 := dt h27
      refine cw_region (ol rfl (lo_fieldAddr rfl fl66_3) (ol rfl (lo_fieldAddr rfl fl63_3) (ol rfl (lo_load1 (i := 0) (v := str _) rfl ag9 rfl rfl) ?_)))
      refine ow1 (op1_pr (r22_maybe _ d.queue.dead (by first | omega | decide | (simp; done))) (en_f cb104 rfl) rfl ?_)
      have := maybeE_r d.queue.dead
      refine oai rfl rfl (ow_nil (blkK_n (seqK_n (cw_seq (cw_seq ?_)))))
      refine cw_region (ol rfl (lo_fieldAddr rfl fl66_0) (ol rfl (lo_load1 (i := 0) (v := .int _ _) rfl ag5 rfl rfl) ?_))
      refine ow1 (op1_pr (r22_names _ d.kind (by omega)) (en_f cb106 rfl) rfl ?_)
      refine ow_nil (seqK_n (cw_cond_f rfl (fd (by omega)) (cw_skip (seqK_n (cw_seq ?_)))))
      refine cw_seq (cw_region (omi rfl rfl (ol rfl (lo_eql rfl rfl) (omb rfl rfl (ow_sp (j := 2) rfl (fun h29 => ?_) (fun h29 => ?_))))))
      · have p30 := dt h29
        refine ow1 (op1_g rfl h29 rfl (lo_fieldAddr rfl fl66_7) ?_)
        refine ow1 (op1_g rfl h29 rfl (lo_load1 (i := 0) (v := .int _ _) rfl ag5 rfl rfl) ?_)
        refine ow1 (op1_g rfl h29 rfl (lo_gtr rfl rfl) ?_)
        refine ol rfl (lo_pick_t (v := .bool _) rfl h29 rfl) (ow_nil (seqK_n (cw_cond rfl (fun h31 => ?_) (fun h31 => ?_))))
        · have p32 := dt h31
          refine cw_region (oai rfl rfl (ow_nil (seqK_n (cw_seq (cw_region ?_)))))
          refine omi rfl rfl (oai rfl rfl (ow_nil (seqK_n (cw_ret (fnK_r (res1 rfl (rv_t (v := .int _ _) rfl)) (.refl _) ?_)))))
          refine congrArg (Value.int .i64) ?_
          unfold deedE
          (repeat (first | rw [if_pos (by omega)] | rw [if_neg (by omega)] | rw [if_pos (by assumption)] | rw [if_neg (by assumption)] | rw [if_neg (fun q => q (by assumption))]))
          all_goals first | done | rfl | omega | (simp only [firstE, boundE, h2, h5, h8, h10, h25, h27, h29, h31, if_true, if_false, Bool.false_eq_true]; (repeat (first | rw [if_pos (by omega)] | rw [if_neg (by omega)] | rw [if_pos (by assumption)] | rw [if_neg (by assumption)] | rw [if_neg (fun q => q (by assumption))])); first | done | rfl | omega)
        have p33 := df h31
        refine cw_skip (seqK_n (cw_seq (cw_region (omi rfl rfl (oai rfl rfl ?_)))))
        refine ow_nil (seqK_n (cw_ret (fnK_r (res1 rfl (rv_t (v := .int _ _) rfl)) (.refl _) (congrArg (Value.int .i64) ?_))))
        unfold deedE
        (repeat (first | rw [if_pos (by omega)] | rw [if_neg (by omega)] | rw [if_pos (by assumption)] | rw [if_neg (by assumption)] | rw [if_neg (fun q => q (by assumption))]))
        all_goals first | done | rfl | omega | (simp only [firstE, boundE, h2, h5, h8, h10, h25, h27, h29, h31, if_true, if_false, Bool.false_eq_true]; (repeat (first | rw [if_pos (by omega)] | rw [if_neg (by omega)] | rw [if_pos (by assumption)] | rw [if_neg (by assumption)] | rw [if_neg (fun q => q (by assumption))])); first | done | rfl | omega)
      have p34 := df h29
      refine og rfl h29 rfl (og rfl h29 rfl (og rfl h29 rfl (ol rfl (lo_pick_f (v := .bool _) rfl h29 rfl) (ow_nil (seqK_n ?_)))))
      refine cw_cond_f rfl rfl (cw_skip (seqK_n (cw_seq (cw_region (omi rfl rfl ?_)))))
      refine oai rfl rfl (ow_nil (seqK_n (cw_ret (fnK_r (res1 rfl (rv_t (v := .int _ _) rfl)) (.refl _) (congrArg (Value.int .i64) ?_)))))
      unfold deedE
      (repeat (first | rw [if_pos (by omega)] | rw [if_neg (by omega)] | rw [if_pos (by assumption)] | rw [if_neg (by assumption)] | rw [if_neg (fun q => q (by assumption))]))
      all_goals first | done | rfl | omega | (simp only [firstE, boundE, h2, h5, h8, h10, h25, h27, h29, if_true, if_false, Bool.false_eq_true]; (repeat (first | rw [if_pos (by omega)] | rw [if_neg (by omega)] | rw [if_pos (by assumption)] | rw [if_neg (by assumption)] | rw [if_neg (fun q => q (by assumption))])); first | done | rfl | omega)
    have p35 := df h27
    refine cw_skip (blkK_n (seqK_n (cw_seq (cw_seq (cw_region ?_)))))
    refine ol rfl (lo_fieldAddr rfl fl66_0) (ol rfl (lo_load1 (i := 0) (v := .int _ _) rfl ag5 rfl rfl) ?_)
    refine ow1 (op1_pr (r22_names _ d.kind (by omega)) (en_f cb106 rfl) rfl ?_)
    refine ow_nil (seqK_n (cw_cond_f rfl (fd (by omega)) (cw_skip (seqK_n (cw_seq ?_)))))
    refine cw_seq (cw_region (omi rfl rfl (ol rfl (lo_eql rfl rfl) (omb rfl rfl (og rfl h27 rfl ?_)))))
    refine og rfl h27 rfl (og rfl h27 rfl (ol rfl (lo_pick_f (v := .bool _) rfl h27 rfl) (ow_nil (seqK_n (cw_cond_f rfl rfl ?_)))))
    refine cw_skip (seqK_n (cw_seq (cw_region (omi rfl rfl (oai rfl rfl ?_)))))
    refine ow_nil (seqK_n (cw_ret (fnK_r (res1 rfl (rv_t (v := .int _ _) rfl)) (.refl _) (congrArg (Value.int .i64) ?_))))
    unfold deedE
    (repeat (first | rw [if_pos (by omega)] | rw [if_neg (by omega)] | rw [if_pos (by assumption)] | rw [if_neg (by assumption)] | rw [if_neg (fun q => q (by assumption))]))
    all_goals first | done | rfl | omega | (simp only [firstE, boundE, h2, h5, h8, h10, h25, h27, if_true, if_false, Bool.false_eq_true]; (repeat (first | rw [if_pos (by omega)] | rw [if_neg (by omega)] | rw [if_pos (by assumption)] | rw [if_neg (by assumption)] | rw [if_neg (fun q => q (by assumption))])); first | done | rfl | omega)
  have p36 := df h25
  refine cw_seq (cw_seq (cw_region (ol rfl (lo_eql rfl rfl) (oab rfl rfl (ow_nil ?_)))))
  refine seqK_n (cw_cond rfl (fun h37 => ?_) (fun h37 => ?_))
  · have p38 := dt h37
    refine cw_skip (seqK_n (cw_cond_t rfl h37 (cw_region (ol rfl (lo_fieldAddr rfl fl66_4) (ol rfl (lo_loadA (i := 0) (vs := [_, _, _, _, _, _]) rfl ag64 sz64 rfl rfl rfl) ?_)))))
    refine ow1 (op1_pr (r22_checkBind _ d.bind d_bind_want_a d_bind_want_c d_bind_want_h (by simp only [BindR.wf]; first | omega | (simp; done) | (simp; omega))) (en_f cb105 rfl) rfl ?_)
    have := bindE_r d.bind
    refine oai rfl rfl (ow_nil (blkK_n (seqK_n (cw_seq (cw_seq ?_)))))
    refine cw_region (ol rfl (lo_fieldAddr rfl fl66_0) (ol rfl (lo_load1 (i := 0) (v := .int _ _) rfl ag5 rfl rfl) ?_))
    refine ow1 (op1_pr (r22_names _ d.kind (by omega)) (en_f cb106 rfl) rfl ?_)
    refine ow_nil (seqK_n (cw_cond_f rfl (fd (by omega)) (cw_skip (seqK_n (cw_seq ?_)))))
    refine cw_seq (cw_region (omi rfl rfl (ol rfl (lo_eql rfl rfl) (omb rfl rfl (ow_sp (j := 2) rfl (fun h39 => ?_) (fun h39 => ?_))))))
    · have p40 := dt h39
      refine ow1 (op1_g rfl h39 rfl (lo_fieldAddr rfl fl66_7) ?_)
      refine ow1 (op1_g rfl h39 rfl (lo_load1 (i := 0) (v := .int _ _) rfl ag5 rfl rfl) ?_)
      refine ow1 (op1_g rfl h39 rfl (lo_gtr rfl rfl) ?_)
      refine ol rfl (lo_pick_t (v := .bool _) rfl h39 rfl) (ow_nil (seqK_n (cw_cond rfl (fun h41 => ?_) (fun h41 => ?_))))
      · have p42 := dt h41
        refine cw_region (oai rfl rfl (ow_nil (seqK_n (cw_seq (cw_region ?_)))))
        refine omi rfl rfl (oai rfl rfl (ow_nil (seqK_n (cw_ret (fnK_r (res1 rfl (rv_t (v := .int _ _) rfl)) (.refl _) ?_)))))
        refine congrArg (Value.int .i64) ?_
        unfold deedE
        (repeat (first | rw [if_pos (by omega)] | rw [if_neg (by omega)] | rw [if_pos (by assumption)] | rw [if_neg (by assumption)] | rw [if_neg (fun q => q (by assumption))]))
        all_goals first | done | rfl | omega | (simp only [firstE, boundE, h2, h5, h8, h10, h25, h37, h39, h41, if_true, if_false, Bool.false_eq_true]; (repeat (first | rw [if_pos (by omega)] | rw [if_neg (by omega)] | rw [if_pos (by assumption)] | rw [if_neg (by assumption)] | rw [if_neg (fun q => q (by assumption))])); first | done | rfl | omega)
      have p43 := df h41
      refine cw_skip (seqK_n (cw_seq (cw_region (omi rfl rfl (oai rfl rfl ?_)))))
      refine ow_nil (seqK_n (cw_ret (fnK_r (res1 rfl (rv_t (v := .int _ _) rfl)) (.refl _) (congrArg (Value.int .i64) ?_))))
      unfold deedE
      (repeat (first | rw [if_pos (by omega)] | rw [if_neg (by omega)] | rw [if_pos (by assumption)] | rw [if_neg (by assumption)] | rw [if_neg (fun q => q (by assumption))]))
      all_goals first | done | rfl | omega | (simp only [firstE, boundE, h2, h5, h8, h10, h25, h37, h39, h41, if_true, if_false, Bool.false_eq_true]; (repeat (first | rw [if_pos (by omega)] | rw [if_neg (by omega)] | rw [if_pos (by assumption)] | rw [if_neg (by assumption)] | rw [if_neg (fun q => q (by assumption))])); first | done | rfl | omega)
    have p44 := df h39
    refine og rfl h39 rfl (og rfl h39 rfl (og rfl h39 rfl (ol rfl (lo_pick_f (v := .bool _) rfl h39 rfl) (ow_nil (seqK_n ?_)))))
    refine cw_cond_f rfl rfl (cw_skip (seqK_n (cw_seq (cw_region (omi rfl rfl ?_)))))
    refine oai rfl rfl (ow_nil (seqK_n (cw_ret (fnK_r (res1 rfl (rv_t (v := .int _ _) rfl)) (.refl _) (congrArg (Value.int .i64) ?_)))))
    unfold deedE
    (repeat (first | rw [if_pos (by omega)] | rw [if_neg (by omega)] | rw [if_pos (by assumption)] | rw [if_neg (by assumption)] | rw [if_neg (fun q => q (by assumption))]))
    all_goals first | done | rfl | omega | (simp only [firstE, boundE, h2, h5, h8, h10, h25, h37, h39, if_true, if_false, Bool.false_eq_true]; (repeat (first | rw [if_pos (by omega)] | rw [if_neg (by omega)] | rw [if_pos (by assumption)] | rw [if_neg (by assumption)] | rw [if_neg (fun q => q (by assumption))])); first | done | rfl | omega)
  have p45 := df h37
  refine cw_region (ol rfl (lo_eql rfl rfl) (oab rfl rfl (ow_nil (seqK_n (cw_cond rfl (fun h46 => ?_) (fun h46 => ?_))))))
  · have p47 := dt h46
    refine cw_region (ol rfl (lo_fieldAddr rfl fl66_4) (ol rfl (lo_loadA (i := 0) (vs := [_, _, _, _, _, _]) rfl ag64 sz64 rfl rfl rfl) ?_))
    refine ow1 (op1_pr (r22_checkBind _ d.bind d_bind_want_a d_bind_want_c d_bind_want_h (by simp only [BindR.wf]; first | omega | (simp; done) | (simp; omega))) (en_f cb105 rfl) rfl ?_)
    have := bindE_r d.bind
    refine oai rfl rfl (ow_nil (blkK_n (seqK_n (cw_seq (cw_seq ?_)))))
    refine cw_region (ol rfl (lo_fieldAddr rfl fl66_0) (ol rfl (lo_load1 (i := 0) (v := .int _ _) rfl ag5 rfl rfl) ?_))
    refine ow1 (op1_pr (r22_names _ d.kind (by omega)) (en_f cb106 rfl) rfl ?_)
    refine ow_nil (seqK_n (cw_cond_f rfl (fd (by omega)) (cw_skip (seqK_n (cw_seq ?_)))))
    refine cw_seq (cw_region (omi rfl rfl (ol rfl (lo_eql rfl rfl) (omb rfl rfl (ow_sp (j := 2) rfl (fun h48 => ?_) (fun h48 => ?_))))))
    · have p49 := dt h48
      refine ow1 (op1_g rfl h48 rfl (lo_fieldAddr rfl fl66_7) ?_)
      refine ow1 (op1_g rfl h48 rfl (lo_load1 (i := 0) (v := .int _ _) rfl ag5 rfl rfl) ?_)
      refine ow1 (op1_g rfl h48 rfl (lo_gtr rfl rfl) ?_)
      refine ol rfl (lo_pick_t (v := .bool _) rfl h48 rfl) (ow_nil (seqK_n (cw_cond rfl (fun h50 => ?_) (fun h50 => ?_))))
      · have p51 := dt h50
        refine cw_region (oai rfl rfl (ow_nil (seqK_n (cw_seq (cw_region ?_)))))
        refine omi rfl rfl (oai rfl rfl (ow_nil (seqK_n (cw_ret (fnK_r (res1 rfl (rv_t (v := .int _ _) rfl)) (.refl _) ?_)))))
        refine congrArg (Value.int .i64) ?_
        unfold deedE
        (repeat (first | rw [if_pos (by omega)] | rw [if_neg (by omega)] | rw [if_pos (by assumption)] | rw [if_neg (by assumption)] | rw [if_neg (fun q => q (by assumption))]))
        all_goals first | done | rfl | omega | (simp only [firstE, boundE, h2, h5, h8, h10, h25, h37, h46, h48, h50, if_true, if_false, Bool.false_eq_true]; (repeat (first | rw [if_pos (by omega)] | rw [if_neg (by omega)] | rw [if_pos (by assumption)] | rw [if_neg (by assumption)] | rw [if_neg (fun q => q (by assumption))])); first | done | rfl | omega)
      have p52 := df h50
      refine cw_skip (seqK_n (cw_seq (cw_region (omi rfl rfl (oai rfl rfl ?_)))))
      refine ow_nil (seqK_n (cw_ret (fnK_r (res1 rfl (rv_t (v := .int _ _) rfl)) (.refl _) (congrArg (Value.int .i64) ?_))))
      unfold deedE
      (repeat (first | rw [if_pos (by omega)] | rw [if_neg (by omega)] | rw [if_pos (by assumption)] | rw [if_neg (by assumption)] | rw [if_neg (fun q => q (by assumption))]))
      all_goals first | done | rfl | omega | (simp only [firstE, boundE, h2, h5, h8, h10, h25, h37, h46, h48, h50, if_true, if_false, Bool.false_eq_true]; (repeat (first | rw [if_pos (by omega)] | rw [if_neg (by omega)] | rw [if_pos (by assumption)] | rw [if_neg (by assumption)] | rw [if_neg (fun q => q (by assumption))])); first | done | rfl | omega)
    have p53 := df h48
    refine og rfl h48 rfl (og rfl h48 rfl (og rfl h48 rfl (ol rfl (lo_pick_f (v := .bool _) rfl h48 rfl) (ow_nil (seqK_n ?_)))))
    refine cw_cond_f rfl rfl (cw_skip (seqK_n (cw_seq (cw_region (omi rfl rfl ?_)))))
    refine oai rfl rfl (ow_nil (seqK_n (cw_ret (fnK_r (res1 rfl (rv_t (v := .int _ _) rfl)) (.refl _) (congrArg (Value.int .i64) ?_)))))
    unfold deedE
    (repeat (first | rw [if_pos (by omega)] | rw [if_neg (by omega)] | rw [if_pos (by assumption)] | rw [if_neg (by assumption)] | rw [if_neg (fun q => q (by assumption))]))
    all_goals first | done | rfl | omega | (simp only [firstE, boundE, h2, h5, h8, h10, h25, h37, h46, h48, if_true, if_false, Bool.false_eq_true]; (repeat (first | rw [if_pos (by omega)] | rw [if_neg (by omega)] | rw [if_pos (by assumption)] | rw [if_neg (by assumption)] | rw [if_neg (fun q => q (by assumption))])); first | done | rfl | omega)
  have p54 := df h46
  refine cw_seq (cw_seq (cw_region (ol rfl (lo_eql rfl rfl) (oab rfl rfl (ow_nil ?_)))))
  refine seqK_n (cw_cond rfl (fun h55 => ?_) (fun h55 => ?_))
  · have p56 := dt h55
    refine cw_skip (seqK_n (cw_cond_t rfl h55 (cw_region (ol rfl (lo_fieldAddr rfl fl66_11) (ol rfl (lo_loadA (i := 0) (vs := [_, _, _, _, _, _, _]) rfl ag28 sz28 rfl rfl rfl) ?_)))))
    refine ow1 (op1_pr (r13_Check _ d.mail d_mail_head_a d_mail_head_c d_mail_head_h (by simp only [Mail.wf]; first | omega | (simp; done) | (simp; omega))) (en_f cb68 rfl) rfl ?_)
    have := mailC_r d.mail
    refine oai rfl rfl (ow_nil (blkK_n (seqK_n (cw_seq (cw_seq ?_)))))
    refine cw_region (ol rfl (lo_fieldAddr rfl fl66_0) (ol rfl (lo_load1 (i := 0) (v := .int _ _) rfl ag5 rfl rfl) ?_))
    refine ow1 (op1_pr (r22_names _ d.kind (by omega)) (en_f cb106 rfl) rfl ?_)
    refine ow_nil (seqK_n (cw_cond_f rfl (fd (by omega)) (cw_skip (seqK_n (cw_seq ?_)))))
    refine cw_seq (cw_region (omi rfl rfl (ol rfl (lo_eql rfl rfl) (omb rfl rfl (ow_sp (j := 2) rfl (fun h57 => ?_) (fun h57 => ?_))))))
    · have p58 := dt h57
      refine ow1 (op1_g rfl h57 rfl (lo_fieldAddr rfl fl66_7) ?_)
      refine ow1 (op1_g rfl h57 rfl (lo_load1 (i := 0) (v := .int _ _) rfl ag5 rfl rfl) ?_)
      refine ow1 (op1_g rfl h57 rfl (lo_gtr rfl rfl) ?_)
      refine ol rfl (lo_pick_t (v := .bool _) rfl h57 rfl) (ow_nil (seqK_n (cw_cond rfl (fun h59 => ?_) (fun h59 => ?_))))
      · have p60 := dt h59
        refine cw_region (oai rfl rfl (ow_nil (seqK_n (cw_seq (cw_region ?_)))))
        refine omi rfl rfl (oai rfl rfl (ow_nil (seqK_n (cw_ret (fnK_r (res1 rfl (rv_t (v := .int _ _) rfl)) (.refl _) ?_)))))
        refine congrArg (Value.int .i64) ?_
        unfold deedE
        (repeat (first | rw [if_pos (by omega)] | rw [if_neg (by omega)] | rw [if_pos (by assumption)] | rw [if_neg (by assumption)] | rw [if_neg (fun q => q (by assumption))]))
        all_goals first | done | rfl | omega | (simp only [firstE, boundE, h2, h5, h8, h10, h25, h37, h46, h55, h57, h59, if_true, if_false, Bool.false_eq_true]; (repeat (first | rw [if_pos (by omega)] | rw [if_neg (by omega)] | rw [if_pos (by assumption)] | rw [if_neg (by assumption)] | rw [if_neg (fun q => q (by assumption))])); first | done | rfl | omega)
      have p61 := df h59
      refine cw_skip (seqK_n (cw_seq (cw_region (omi rfl rfl (oai rfl rfl ?_)))))
      refine ow_nil (seqK_n (cw_ret (fnK_r (res1 rfl (rv_t (v := .int _ _) rfl)) (.refl _) (congrArg (Value.int .i64) ?_))))
      unfold deedE
      (repeat (first | rw [if_pos (by omega)] | rw [if_neg (by omega)] | rw [if_pos (by assumption)] | rw [if_neg (by assumption)] | rw [if_neg (fun q => q (by assumption))]))
      all_goals first | done | rfl | omega | (simp only [firstE, boundE, h2, h5, h8, h10, h25, h37, h46, h55, h57, h59, if_true, if_false, Bool.false_eq_true]; (repeat (first | rw [if_pos (by omega)] | rw [if_neg (by omega)] | rw [if_pos (by assumption)] | rw [if_neg (by assumption)] | rw [if_neg (fun q => q (by assumption))])); first | done | rfl | omega)
    have p62 := df h57
    refine og rfl h57 rfl (og rfl h57 rfl (og rfl h57 rfl (ol rfl (lo_pick_f (v := .bool _) rfl h57 rfl) (ow_nil (seqK_n ?_)))))
    refine cw_cond_f rfl rfl (cw_skip (seqK_n (cw_seq (cw_region (omi rfl rfl ?_)))))
    refine oai rfl rfl (ow_nil (seqK_n (cw_ret (fnK_r (res1 rfl (rv_t (v := .int _ _) rfl)) (.refl _) (congrArg (Value.int .i64) ?_)))))
    unfold deedE
    (repeat (first | rw [if_pos (by omega)] | rw [if_neg (by omega)] | rw [if_pos (by assumption)] | rw [if_neg (by assumption)] | rw [if_neg (fun q => q (by assumption))]))
    all_goals first | done | rfl | omega | (simp only [firstE, boundE, h2, h5, h8, h10, h25, h37, h46, h55, h57, if_true, if_false, Bool.false_eq_true]; (repeat (first | rw [if_pos (by omega)] | rw [if_neg (by omega)] | rw [if_pos (by assumption)] | rw [if_neg (by assumption)] | rw [if_neg (fun q => q (by assumption))])); first | done | rfl | omega)
  have p63 := df h55
  refine cw_region (ol rfl (lo_eql rfl rfl) (oab rfl rfl (ow_nil (seqK_n (cw_cond rfl (fun h64 => ?_) (fun h64 => ?_))))))
  · have p65 := dt h64
    refine cw_region (ol rfl (lo_fieldAddr rfl fl66_11) (ol rfl (lo_loadA (i := 0) (vs := [_, _, _, _, _, _, _]) rfl ag28 sz28 rfl rfl rfl) ?_))
    refine ow1 (op1_pr (r13_Check _ d.mail d_mail_head_a d_mail_head_c d_mail_head_h (by simp only [Mail.wf]; first | omega | (simp; done) | (simp; omega))) (en_f cb68 rfl) rfl ?_)
    have := mailC_r d.mail
    refine oai rfl rfl (ow_nil (blkK_n (seqK_n (cw_seq (cw_seq ?_)))))
    refine cw_region (ol rfl (lo_fieldAddr rfl fl66_0) (ol rfl (lo_load1 (i := 0) (v := .int _ _) rfl ag5 rfl rfl) ?_))
    refine ow1 (op1_pr (r22_names _ d.kind (by omega)) (en_f cb106 rfl) rfl ?_)
    refine ow_nil (seqK_n (cw_cond_f rfl (fd (by omega)) (cw_skip (seqK_n (cw_seq ?_)))))
    refine cw_seq (cw_region (omi rfl rfl (ol rfl (lo_eql rfl rfl) (omb rfl rfl (ow_sp (j := 2) rfl (fun h66 => ?_) (fun h66 => ?_))))))
    · have p67 := dt h66
      refine ow1 (op1_g rfl h66 rfl (lo_fieldAddr rfl fl66_7) ?_)
      refine ow1 (op1_g rfl h66 rfl (lo_load1 (i := 0) (v := .int _ _) rfl ag5 rfl rfl) ?_)
      refine ow1 (op1_g rfl h66 rfl (lo_gtr rfl rfl) ?_)
      refine ol rfl (lo_pick_t (v := .bool _) rfl h66 rfl) (ow_nil (seqK_n (cw_cond rfl (fun h68 => ?_) (fun h68 => ?_))))
      · have p69 := dt h68
        refine cw_region (oai rfl rfl (ow_nil (seqK_n (cw_seq (cw_region ?_)))))
        refine omi rfl rfl (oai rfl rfl (ow_nil (seqK_n (cw_ret (fnK_r (res1 rfl (rv_t (v := .int _ _) rfl)) (.refl _) ?_)))))
        refine congrArg (Value.int .i64) ?_
        unfold deedE
        (repeat (first | rw [if_pos (by omega)] | rw [if_neg (by omega)] | rw [if_pos (by assumption)] | rw [if_neg (by assumption)] | rw [if_neg (fun q => q (by assumption))]))
        all_goals first | done | rfl | omega | (simp only [firstE, boundE, h2, h5, h8, h10, h25, h37, h46, h55, h64, h66, h68, if_true, if_false, Bool.false_eq_true]; (repeat (first | rw [if_pos (by omega)] | rw [if_neg (by omega)] | rw [if_pos (by assumption)] | rw [if_neg (by assumption)] | rw [if_neg (fun q => q (by assumption))])); first | done | rfl | omega)
      have p70 := df h68
      refine cw_skip (seqK_n (cw_seq (cw_region (omi rfl rfl (oai rfl rfl ?_)))))
      refine ow_nil (seqK_n (cw_ret (fnK_r (res1 rfl (rv_t (v := .int _ _) rfl)) (.refl _) (congrArg (Value.int .i64) ?_))))
      unfold deedE
      (repeat (first | rw [if_pos (by omega)] | rw [if_neg (by omega)] | rw [if_pos (by assumption)] | rw [if_neg (by assumption)] | rw [if_neg (fun q => q (by assumption))]))
      all_goals first | done | rfl | omega | (simp only [firstE, boundE, h2, h5, h8, h10, h25, h37, h46, h55, h64, h66, h68, if_true, if_false, Bool.false_eq_true]; (repeat (first | rw [if_pos (by omega)] | rw [if_neg (by omega)] | rw [if_pos (by assumption)] | rw [if_neg (by assumption)] | rw [if_neg (fun q => q (by assumption))])); first | done | rfl | omega)
    have p71 := df h66
    refine og rfl h66 rfl (og rfl h66 rfl (og rfl h66 rfl (ol rfl (lo_pick_f (v := .bool _) rfl h66 rfl) (ow_nil (seqK_n ?_)))))
    refine cw_cond_f rfl rfl (cw_skip (seqK_n (cw_seq (cw_region (omi rfl rfl ?_)))))
    refine oai rfl rfl (ow_nil (seqK_n (cw_ret (fnK_r (res1 rfl (rv_t (v := .int _ _) rfl)) (.refl _) (congrArg (Value.int .i64) ?_)))))
    unfold deedE
    (repeat (first | rw [if_pos (by omega)] | rw [if_neg (by omega)] | rw [if_pos (by assumption)] | rw [if_neg (by assumption)] | rw [if_neg (fun q => q (by assumption))]))
    all_goals first | done | rfl | omega | (simp only [firstE, boundE, h2, h5, h8, h10, h25, h37, h46, h55, h64, h66, if_true, if_false, Bool.false_eq_true]; (repeat (first | rw [if_pos (by omega)] | rw [if_neg (by omega)] | rw [if_pos (by assumption)] | rw [if_neg (by assumption)] | rw [if_neg (fun q => q (by assumption))])); first | done | rfl | omega)
  have p72 := df h64
  refine cw_seq (cw_region (ol rfl (lo_eql rfl rfl) (oab rfl rfl (ow_nil (seqK_n ?_)))))
  refine cw_cond rfl (fun h73 => ?_) (fun h73 => ?_)
  · have p74 := dt h73
    refine cw_seq (cw_region (ol rfl (lo_fieldAddr rfl fl66_12) (ol rfl (lo_load1 (i := 0) (v := str _) rfl ag9 rfl rfl) (ol rfl (lo_len_str rfl Tryz.underlying9) (ol rfl (lo_gtr rfl rfl) ?_)))))
    refine ow_nil (seqK_n (cw_cond rfl (fun h75 => ?_) (fun h75 => ?_)))
    · have p76 := dt h75
      refine cw_region (oai rfl rfl (ow_nil (blkK_n (seqK_n (cw_seq ?_)))))
      refine cw_seq (cw_region (ol rfl (lo_fieldAddr rfl fl66_0) (ol rfl (lo_load1 (i := 0) (v := .int _ _) rfl ag5 rfl rfl) ?_)))
      refine ow1 (op1_pr (r22_names _ d.kind (by omega)) (en_f cb106 rfl) rfl ?_)
      refine ow_nil (seqK_n (cw_cond_f rfl (fd (by omega)) (cw_skip (seqK_n (cw_seq ?_)))))
      refine cw_seq (cw_region (omi rfl rfl (ol rfl (lo_eql rfl rfl) (omb rfl rfl ?_))))
      refine ow1 (op1_gs rfl (by decide) rfl ?_)
      refine ow1 (op1_gs rfl (by decide) rfl ?_)
      refine ow1 (op1_gs rfl (by decide) rfl ?_)
      refine ol rfl (lo_pick_f (v := .bool _) rfl (by decide) rfl) (ow_nil (seqK_n (cw_cond_f rfl rfl (cw_skip (seqK_n ?_)))))
      refine cw_seq (cw_region (omi rfl rfl (oai rfl rfl (ow_nil (seqK_n ?_)))))
      refine cw_ret (fnK_r (res1 rfl (rv_t (v := .int _ _) rfl)) (.refl _) (congrArg (Value.int .i64) ?_))
      unfold deedE
      (repeat (first | rw [if_pos (by omega)] | rw [if_neg (by omega)] | rw [if_pos (by assumption)] | rw [if_neg (by assumption)] | rw [if_neg (fun q => q (by assumption))]))
      all_goals first | done | rfl | omega | (simp only [firstE, boundE, h2, h5, h8, h10, h25, h37, h46, h55, h64, h73, h75, if_true, if_false, Bool.false_eq_true]; (repeat (first | rw [if_pos (by omega)] | rw [if_neg (by omega)] | rw [if_pos (by assumption)] | rw [if_neg (by assumption)] | rw [if_neg (fun q => q (by assumption))])); first | done | rfl | omega)
    have p77 := df h75
    refine cw_skip (blkK_n (seqK_n (cw_seq (cw_seq (cw_region ?_)))))
    refine ol rfl (lo_fieldAddr rfl fl66_0) (ol rfl (lo_load1 (i := 0) (v := .int _ _) rfl ag5 rfl rfl) ?_)
    refine ow1 (op1_pr (r22_names _ d.kind (by omega)) (en_f cb106 rfl) rfl ?_)
    refine ow_nil (seqK_n (cw_cond_f rfl (fd (by omega)) (cw_skip (seqK_n (cw_seq ?_)))))
    refine cw_seq (cw_region (omi rfl rfl (ol rfl (lo_eql rfl rfl) (omb rfl rfl ?_))))
    refine ow1 (op1_g rfl (by decide) rfl (lo_fieldAddr rfl fl66_7) ?_)
    refine ow1 (op1_g rfl (by decide) rfl (lo_load1 (i := 0) (v := .int _ _) rfl ag5 rfl rfl) ?_)
    refine ow1 (op1_g rfl (by decide) rfl (lo_gtr rfl rfl) ?_)
    refine ol rfl (lo_pick_t (v := .bool _) rfl (by decide) rfl) (ow_nil (seqK_n (cw_cond rfl (fun h78 => ?_) (fun h78 => ?_))))
    · have p79 := dt h78
      refine cw_region (oai rfl rfl (ow_nil (seqK_n (cw_seq (cw_region ?_)))))
      refine omi rfl rfl (oai rfl rfl (ow_nil (seqK_n (cw_ret (fnK_r (res1 rfl (rv_t (v := .int _ _) rfl)) (.refl _) ?_)))))
      refine congrArg (Value.int .i64) ?_
      unfold deedE
      (repeat (first | rw [if_pos (by omega)] | rw [if_neg (by omega)] | rw [if_pos (by assumption)] | rw [if_neg (by assumption)] | rw [if_neg (fun q => q (by assumption))]))
      all_goals first | done | rfl | omega | (simp only [firstE, boundE, h2, h5, h8, h10, h25, h37, h46, h55, h64, h73, h75, h78, if_true, if_false, Bool.false_eq_true]; (repeat (first | rw [if_pos (by omega)] | rw [if_neg (by omega)] | rw [if_pos (by assumption)] | rw [if_neg (by assumption)] | rw [if_neg (fun q => q (by assumption))])); first | done | rfl | omega)
    have p80 := df h78
    refine cw_skip (seqK_n (cw_seq (cw_region (omi rfl rfl (oai rfl rfl ?_)))))
    refine ow_nil (seqK_n (cw_ret (fnK_r (res1 rfl (rv_t (v := .int _ _) rfl)) (.refl _) (congrArg (Value.int .i64) ?_))))
    unfold deedE
    (repeat (first | rw [if_pos (by omega)] | rw [if_neg (by omega)] | rw [if_pos (by assumption)] | rw [if_neg (by assumption)] | rw [if_neg (fun q => q (by assumption))]))
    all_goals first | done | rfl | omega | (simp only [firstE, boundE, h2, h5, h8, h10, h25, h37, h46, h55, h64, h73, h75, h78, if_true, if_false, Bool.false_eq_true]; (repeat (first | rw [if_pos (by omega)] | rw [if_neg (by omega)] | rw [if_pos (by assumption)] | rw [if_neg (by assumption)] | rw [if_neg (fun q => q (by assumption))])); first | done | rfl | omega)
  have p81 := df h73
  refine cw_skip (blkK_n (seqK_n (cw_seq (cw_seq (cw_region ?_)))))
  refine ol rfl (lo_fieldAddr rfl fl66_0) (ol rfl (lo_load1 (i := 0) (v := .int _ _) rfl ag5 rfl rfl) ?_)
  refine ow1 (op1_pr (r22_names _ d.kind (by omega)) (en_f cb106 rfl) rfl ?_)
  refine ow_nil (seqK_n (cw_cond rfl (fun h82 => ?_) (fun h82 => ?_)))
  · have p83 := dt h82
    refine cw_region (ol rfl (lo_fieldAddr rfl fl66_5) (ol rfl (lo_load1 (i := 0) (v := str _) rfl ag9 rfl rfl) ?_))
    refine ow1 (op1_pr (r4_Name _ d.name (by first | omega | decide | (simp; done))) (en_f cb86 rfl) rfl ?_)
    refine oai rfl rfl (ow_nil (seqK_n (cw_seq (cw_seq (cw_region ?_)))))
    refine omi rfl rfl (ol rfl (lo_eql rfl rfl) (omb rfl rfl (ow_sp (j := 2) rfl (fun h84 => ?_) (fun h84 => ?_))))
    · have p85 := dt h84
      refine ow1 (op1_g rfl h84 rfl (lo_fieldAddr rfl fl66_7) ?_)
      refine ow1 (op1_g rfl h84 rfl (lo_load1 (i := 0) (v := .int _ _) rfl ag5 rfl rfl) ?_)
      refine ow1 (op1_g rfl h84 rfl (lo_gtr rfl rfl) ?_)
      refine ol rfl (lo_pick_t (v := .bool _) rfl h84 rfl) (ow_nil (seqK_n (cw_cond rfl (fun h86 => ?_) (fun h86 => ?_))))
      · have p87 := dt h86
        refine cw_region (oai rfl rfl (ow_nil (seqK_n (cw_seq (cw_region ?_)))))
        refine omi rfl rfl (oai rfl rfl (ow_nil (seqK_n (cw_ret (fnK_r (res1 rfl (rv_t (v := .int _ _) rfl)) (.refl _) ?_)))))
        refine congrArg (Value.int .i64) ?_
        unfold deedE
        (repeat (first | rw [if_pos (by omega)] | rw [if_neg (by omega)] | rw [if_pos (by assumption)] | rw [if_neg (by assumption)] | rw [if_neg (fun q => q (by assumption))]))
        all_goals first | done | rfl | omega | (simp only [firstE, boundE, h2, h5, h8, h10, h25, h37, h46, h55, h64, h73, h82, h84, h86, if_true, if_false, Bool.false_eq_true]; (repeat (first | rw [if_pos (by omega)] | rw [if_neg (by omega)] | rw [if_pos (by assumption)] | rw [if_neg (by assumption)] | rw [if_neg (fun q => q (by assumption))])); first | done | rfl | omega)
      have p88 := df h86
      refine cw_skip (seqK_n (cw_seq (cw_region (omi rfl rfl (oai rfl rfl ?_)))))
      refine ow_nil (seqK_n (cw_ret (fnK_r (res1 rfl (rv_t (v := .int _ _) rfl)) (.refl _) (congrArg (Value.int .i64) ?_))))
      unfold deedE
      (repeat (first | rw [if_pos (by omega)] | rw [if_neg (by omega)] | rw [if_pos (by assumption)] | rw [if_neg (by assumption)] | rw [if_neg (fun q => q (by assumption))]))
      all_goals first | done | rfl | omega | (simp only [firstE, boundE, h2, h5, h8, h10, h25, h37, h46, h55, h64, h73, h82, h84, h86, if_true, if_false, Bool.false_eq_true]; (repeat (first | rw [if_pos (by omega)] | rw [if_neg (by omega)] | rw [if_pos (by assumption)] | rw [if_neg (by assumption)] | rw [if_neg (fun q => q (by assumption))])); first | done | rfl | omega)
    have p89 := df h84
    refine og rfl h84 rfl (og rfl h84 rfl (og rfl h84 rfl (ol rfl (lo_pick_f (v := .bool _) rfl h84 rfl) (ow_nil (seqK_n ?_)))))
    refine cw_cond_f rfl rfl (cw_skip (seqK_n (cw_seq (cw_region (omi rfl rfl ?_)))))
    refine oai rfl rfl (ow_nil (seqK_n (cw_ret (fnK_r (res1 rfl (rv_t (v := .int _ _) rfl)) (.refl _) (congrArg (Value.int .i64) ?_)))))
    unfold deedE
    (repeat (first | rw [if_pos (by omega)] | rw [if_neg (by omega)] | rw [if_pos (by assumption)] | rw [if_neg (by assumption)] | rw [if_neg (fun q => q (by assumption))]))
    all_goals first | done | rfl | omega | (simp only [firstE, boundE, h2, h5, h8, h10, h25, h37, h46, h55, h64, h73, h82, h84, if_true, if_false, Bool.false_eq_true]; (repeat (first | rw [if_pos (by omega)] | rw [if_neg (by omega)] | rw [if_pos (by assumption)] | rw [if_neg (by assumption)] | rw [if_neg (fun q => q (by assumption))])); first | done | rfl | omega)
  have p90 := df h82
  refine cw_skip (seqK_n (cw_seq (cw_seq (cw_region (omi rfl rfl ?_)))))
  refine ol rfl (lo_eql rfl rfl) (omb rfl rfl ?_)
  refine ow1 (op1_g rfl (by decide) rfl (lo_fieldAddr rfl fl66_7) ?_)
  refine ow1 (op1_g rfl (by decide) rfl (lo_load1 (i := 0) (v := .int _ _) rfl ag5 rfl rfl) ?_)
  refine ow1 (op1_g rfl (by decide) rfl (lo_gtr rfl rfl) ?_)
  refine ol rfl (lo_pick_t (v := .bool _) rfl (by decide) rfl) (ow_nil (seqK_n (cw_cond rfl (fun h91 => ?_) (fun h91 => ?_))))
  · have p92 := dt h91
    refine cw_region (oai rfl rfl (ow_nil (seqK_n (cw_seq (cw_region ?_)))))
    refine omi rfl rfl (oai rfl rfl (ow_nil (seqK_n (cw_ret (fnK_r (res1 rfl (rv_t (v := .int _ _) rfl)) (.refl _) ?_)))))
    refine congrArg (Value.int .i64) ?_
    unfold deedE
    (repeat (first | rw [if_pos (by omega)] | rw [if_neg (by omega)] | rw [if_pos (by assumption)] | rw [if_neg (by assumption)] | rw [if_neg (fun q => q (by assumption))]))
    all_goals first | done | rfl | omega | (simp only [firstE, boundE, h2, h5, h8, h10, h25, h37, h46, h55, h64, h73, h82, h91, if_true, if_false, Bool.false_eq_true]; (repeat (first | rw [if_pos (by omega)] | rw [if_neg (by omega)] | rw [if_pos (by assumption)] | rw [if_neg (by assumption)] | rw [if_neg (fun q => q (by assumption))])); first | done | rfl | omega)
  have p93 := df h91
  refine cw_skip (seqK_n (cw_seq (cw_region (omi rfl rfl (oai rfl rfl ?_)))))
  refine ow_nil (seqK_n (cw_ret (fnK_r (res1 rfl (rv_t (v := .int _ _) rfl)) (.refl _) (congrArg (Value.int .i64) ?_))))
  unfold deedE
  (repeat (first | rw [if_pos (by omega)] | rw [if_neg (by omega)] | rw [if_pos (by assumption)] | rw [if_neg (by assumption)] | rw [if_neg (fun q => q (by assumption))]))
  all_goals first | done | rfl | omega | (simp only [firstE, boundE, h2, h5, h8, h10, h25, h37, h46, h55, h64, h73, h82, h91, if_true, if_false, Bool.false_eq_true]; (repeat (first | rw [if_pos (by omega)] | rw [if_neg (by omega)] | rw [if_pos (by assumption)] | rw [if_neg (by assumption)] | rw [if_neg (fun q => q (by assumption))])); first | done | rfl | omega)
end Go.SW
set_option linter.unusedVariables false
set_option maxRecDepth 100000
set_option maxHeartbeats 4000000
namespace Go.SW
open Go.Proofs
theorem cb123 : Callable Tryz.prog 123 := callable_of Tryz.func123 (by kernel_rfl) (by kernel_rfl)
theorem cb125 : Callable Tryz.prog 125 := callable_of Tryz.func125 (by kernel_rfl) (by kernel_rfl)
theorem fl63_1 : Fld Tryz.prog 63 1 1 := fun b o w => by kernel_rfl
theorem fl63_2 : Fld Tryz.prog 63 2 2 := fun b o w => by kernel_rfl
theorem zr64 : Zr Tryz.prog 64 [str [], str [], .bool false, str [], .slice none 0 0, .bool false] := fun w => ⟨.agg #[str [], str [], .bool false, str [], .slice none 0 0, .bool false], by kernel_rfl, rfl⟩
theorem r13_Bytes (H : Hp) (m : Mail) (m_head_a : Option Addr) (m_head_c : Nat) (m_head_h : SlH pairE 4 H (.slice m_head_a m.head.length m_head_c) m.head) (m_w : Mail.wf m) (hE : mailC m = 0) : Pr Tryz.prog 125 #[.agg (Mail.cells m m_head_a m_head_c).toArray] H (str (mailB m)) := by
  refine pr_cw Tryz.func125 rfl Tryz.ntmps125 rfl (fun N => ?_)
  have m_w' := m_w
  simp only [Mail.wf] at m_w'
  obtain ⟨mk1, mk2, mk3, mk4, mk5⟩ := mailC_ok hE
  have hkd : ∀ p ∈ m.head, 0 ≤ p.kind := slh_kind m_head_h
  have hsx := smallH_ok mk3
  have hrl := r9B_le mk3 hkd
  refine cw_seq (cw_region (ow1 (op1_box (cs := [_, _, _, _, _, _, _]) 0 rfl rfl (fun b1 => ?_))))
  refine ol rfl (lo_assign (v := str _) rfl) (ow_nil (seqK_n (cw_seq (cw_anyL mixd (vw_q 0 rfl (by kernel_rfl) (by repeat (first | exact lle_l0 | exact LLe.refl _ | exact lle_none | refine lle_up ?_ rfl)) (fun _ _ hh hl => lo_fieldAddr rfl fl28_0) ?_)))))
  refine vw_q 1 rfl (by kernel_rfl) (by repeat (first | exact lle_l0 | exact LLe.refl _ | exact lle_none | refine lle_up ?_ rfl)) (fun _ _ hh hl => lo_load1 (i := 0) (v := .int _ _) rfl ag25 (hl _ _ rfl) rfl) ?_
  have := numB_len (numK 8) (m.id).toNat
  have := numK_le 8
  have : numK 8 = 8 := by decide
  refine vw_qc 2 rfl (by kernel_rfl) (by repeat (first | exact lle_l0 | exact LLe.refl _ | exact lle_none | refine lle_up ?_ rfl)) (r1_Num _ m.id (by omega) 8 (by omega)) (en_f cb121 rfl) ?_
  refine vw_q 3 rfl (by kernel_rfl) (by repeat (first | exact lle_l0 | exact LLe.refl _ | exact lle_none | refine lle_up ?_ rfl)) (fun _ _ hh hl => lo_fieldAddr rfl fl28_1) ?_
  refine vw_q 4 rfl (by kernel_rfl) (by repeat (first | exact lle_l0 | exact LLe.refl _ | exact lle_none | refine lle_up ?_ rfl)) (fun _ _ hh hl => lo_load1 (i := 0) (v := str _) rfl ag9 (hl _ _ rfl) rfl) ?_
  have := txtB_len m.shop
  refine vw_qc 5 rfl (by kernel_rfl) (by repeat (first | exact lle_l0 | exact LLe.refl _ | exact lle_none | refine lle_up ?_ rfl)) (r1_Text _ m.shop (by first | omega | (simp; done) | (simp; omega))) (en_f cb122 rfl) ?_
  refine vw_q 6 rfl (by kernel_rfl) (by repeat (first | exact lle_l0 | exact LLe.refl _ | exact lle_none | refine lle_up ?_ rfl)) (fun _ _ hh hl => lo_cat rfl rfl (by first | omega | (simp only [List.length_append, List.length_cons, List.length_nil]; omega))) ?_
  refine vw_q 7 rfl (by kernel_rfl) (by repeat (first | exact lle_l0 | exact LLe.refl _ | exact lle_none | refine lle_up ?_ rfl)) (fun _ _ hh hl => lo_fieldAddr rfl fl28_2) ?_
  refine vw_q 8 rfl (by kernel_rfl) (by repeat (first | exact lle_l0 | exact LLe.refl _ | exact lle_none | refine lle_up ?_ rfl)) (fun _ _ hh hl => lo_load1 (i := 0) (v := str _) rfl ag9 (hl _ _ rfl) rfl) ?_
  have := txtB_len m.key
  refine vw_qc 9 rfl (by kernel_rfl) (by repeat (first | exact lle_l0 | exact LLe.refl _ | exact lle_none | refine lle_up ?_ rfl)) (r1_Text _ m.key (by first | omega | (simp; done) | (simp; omega))) (en_f cb122 rfl) ?_
  refine vw_q 10 rfl (by kernel_rfl) (by repeat (first | exact lle_l0 | exact LLe.refl _ | exact lle_none | refine lle_up ?_ rfl)) (fun _ _ hh hl => lo_cat rfl rfl (by first | omega | (simp only [List.length_append, List.length_cons, List.length_nil]; omega))) ?_
  refine vw_q 11 rfl (by kernel_rfl) (by repeat (first | exact lle_l0 | exact LLe.refl _ | exact lle_none | refine lle_up ?_ rfl)) (fun _ _ hh hl => lo_fieldAddr rfl fl28_3) ?_
  refine vw_q 12 rfl (by kernel_rfl) (by repeat (first | exact lle_l0 | exact LLe.refl _ | exact lle_none | refine lle_up ?_ rfl)) (fun _ _ hh hl => lo_load1 (i := 0) (v := .slice _ _ _) rfl ag26 (hl _ _ rfl) rfl) ?_
  have hsmx : smallH m.head := by first | assumption | exact smallH_lightR (by assumption) | exact smallH_light (by assumption)
  have := r9B_len hsmx
  have := hsmx.1
  refine vw_qc 13 rfl (by kernel_rfl) (by repeat (first | exact lle_l0 | exact LLe.refl _ | exact lle_none | refine lle_up ?_ rfl)) (r9_Bytes _ m_head_a m.head.length m_head_c m.head m_head_h (by first | assumption | exact smallH_lightR (by assumption) | exact smallH_light (by assumption))) (en_f cb124 rfl) ?_
  refine vw_q 14 rfl (by kernel_rfl) (by repeat (first | exact lle_l0 | exact LLe.refl _ | exact lle_none | refine lle_up ?_ rfl)) (fun _ _ hh hl => lo_cat rfl rfl (by first | omega | (simp only [List.length_append, List.length_cons, List.length_nil]; omega))) ?_
  refine vw_q 15 rfl (by kernel_rfl) (by repeat (first | exact lle_l0 | exact LLe.refl _ | exact lle_none | refine lle_up ?_ rfl)) (fun _ _ hh hl => lo_fieldAddr rfl fl28_4) ?_
  refine vw_q 16 rfl (by kernel_rfl) (by repeat (first | exact lle_l0 | exact LLe.refl _ | exact lle_none | refine lle_up ?_ rfl)) (fun _ _ hh hl => lo_load1 (i := 0) (v := str _) rfl ag9 (hl _ _ rfl) rfl) ?_
  have := txtB_len m.body
  refine vw_qc 17 rfl (by kernel_rfl) (by repeat (first | exact lle_l0 | exact LLe.refl _ | exact lle_none | refine lle_up ?_ rfl)) (r1_Text _ m.body (by first | omega | (simp; done) | (simp; omega))) (en_f cb122 rfl) ?_
  refine vw_q 18 rfl (by kernel_rfl) (by repeat (first | exact lle_l0 | exact LLe.refl _ | exact lle_none | refine lle_up ?_ rfl)) (fun _ _ hh hl => lo_cat rfl rfl (by first | omega | (simp only [List.length_append, List.length_cons, List.length_nil]; omega))) ?_
  refine vw_q 19 rfl (by kernel_rfl) (by repeat (first | exact lle_l0 | exact LLe.refl _ | exact lle_none | refine lle_up ?_ rfl)) (fun _ _ hh hl => lo_fieldAddr rfl fl28_5) ?_
  refine vw_q 20 rfl (by kernel_rfl) (by repeat (first | exact lle_l0 | exact LLe.refl _ | exact lle_none | refine lle_up ?_ rfl)) (fun _ _ hh hl => lo_load1 (i := 0) (v := .int _ _) rfl ag25 (hl _ _ rfl) rfl) ?_
  have := numB_len (numK 8) (m.due).toNat
  have := numK_le 8
  have : numK 8 = 8 := by decide
  refine vw_qc 21 rfl (by kernel_rfl) (by repeat (first | exact lle_l0 | exact LLe.refl _ | exact lle_none | refine lle_up ?_ rfl)) (r1_Num _ m.due (by omega) 8 (by omega)) (en_f cb121 rfl) ?_
  refine vw_q 22 rfl (by kernel_rfl) (by repeat (first | exact lle_l0 | exact LLe.refl _ | exact lle_none | refine lle_up ?_ rfl)) (fun _ _ hh hl => lo_cat rfl rfl (by first | omega | (simp only [List.length_append, List.length_cons, List.length_nil]; omega))) ?_
  refine vw_q 23 rfl (by kernel_rfl) (by repeat (first | exact lle_l0 | exact LLe.refl _ | exact lle_none | refine lle_up ?_ rfl)) (fun _ _ hh hl => lo_fieldAddr rfl fl28_6) ?_
  refine vw_q 24 rfl (by kernel_rfl) (by repeat (first | exact lle_l0 | exact LLe.refl _ | exact lle_none | refine lle_up ?_ rfl)) (fun _ _ hh hl => lo_load1 (i := 0) (v := .int _ _) rfl ag5 (hl _ _ rfl) rfl) ?_
  refine vw_q 25 rfl (by kernel_rfl) (by repeat (first | exact lle_l0 | exact LLe.refl _ | exact lle_none | refine lle_up ?_ rfl)) (fun _ _ hh hl => lo_conv_in rfl (by rw [Tryz.underlying5]; rfl) Tryz.underlying25 (rg_u64 (by omega))) ?_
  have := numB_len (numK 1) (m.hops).toNat
  have := numK_le 1
  have : numK 1 = 1 := by decide
  refine vw_qc 26 rfl (by kernel_rfl) (by repeat (first | exact lle_l0 | exact LLe.refl _ | exact lle_none | refine lle_up ?_ rfl)) (r1_Num _ m.hops (by omega) 1 (by omega)) (en_f cb121 rfl) ?_
  refine vw_q 27 rfl (by kernel_rfl) (by repeat (first | exact lle_l0 | exact LLe.refl _ | exact lle_none | refine lle_up ?_ rfl)) (fun _ _ hh hl => lo_cat rfl rfl (by first | omega | (simp only [List.length_append, List.length_cons, List.length_nil]; omega))) ?_
  refine vw_q 28 rfl (by kernel_rfl) (by repeat (first | exact lle_l0 | exact LLe.refl _ | exact lle_none | refine lle_up ?_ rfl)) (fun _ _ hh hl => lo_assign (v := str _) rfl) ?_
  refine vw_done (by kernel_rfl) (seqK_n (cw_ret (fnK_r (res1 rfl (rv_t (v := str _) rfl)) (.refl _) ?_)))
  have k1 : numK 1 = 1 := by decide
  have k8 : numK 8 = 8 := by decide
  simp only [k1, k8, List.append_assoc]
  rfl
theorem r22_Bytes (H : Hp) (d : DeedR) (d_bind_want_a : Option Addr) (d_bind_want_c : Nat) (d_bind_want_h : SlH pairE 4 H (.slice d_bind_want_a d.bind.want.length d_bind_want_c) d.bind.want) (d_mail_head_a : Option Addr) (d_mail_head_c : Nat) (d_mail_head_h : SlH pairE 4 H (.slice d_mail_head_a d.mail.head.length d_mail_head_c) d.mail.head) (d_w : DeedR.wf d) (hE : deedE d = 0) : Pr Tryz.prog 35 #[.agg (DeedR.cells d d_bind_want_a d_bind_want_c d_mail_head_a d_mail_head_c).toArray] H (str (deedB d)) := by
  refine pr_cw Tryz.func35 rfl Tryz.ntmps35 rfl (fun N => ?_)
  have d_w' := d_w
  simp only [DeedR.wf, ShopR.wf, QueueR.wf, BindR.wf, Mail.wf] at d_w'
  obtain ⟨dk1, dk2, dk3, dk4, dk5, dk6, dk7, dk8, dk9, dk10, dk11, dk12, dk13, dk14, dk15, dk16, dk17, dk18, dk19⟩ := deedE_ok (d := d) (by omega) hE
  have hkd : ∀ p ∈ d.bind.want, 0 ≤ p.kind := slh_kind d_bind_want_h
  have hkm : ∀ p ∈ d.mail.head, 0 ≤ p.kind := slh_kind d_mail_head_h
  have hsx := smallH_ok dk11
  have hrl := r9B_le dk11 hkd
  have hmz := deedE_mail hE
  refine cw_seq (cw_region (ow1 (op1_box (cs := [_, _, _, _, _, _, _, _, _, _, _, _, _, _, _, _, _, _, _, _, _, _, _, _, _, _, _, _, _]) 0 rfl rfl (fun b1 => ?_))))
  refine ol rfl (lo_assign (v := str _) rfl) (ow_nil (seqK_n (cw_seq (cw_anyL mixd (vw_q 0 rfl (by kernel_rfl) (by repeat (first | exact lle_l0 | exact LLe.refl _ | exact lle_none | refine lle_up ?_ rfl)) (fun _ _ hh hl => lo_fieldAddr rfl fl66_0) ?_)))))
  refine vw_q 1 rfl (by kernel_rfl) (by repeat (first | exact lle_l0 | exact LLe.refl _ | exact lle_none | refine lle_up ?_ rfl)) (fun _ _ hh hl => lo_load1 (i := 0) (v := .int _ _) rfl ag5 (hl _ _ rfl) rfl) ?_
  refine vw_q 2 rfl (by kernel_rfl) (by repeat (first | exact lle_l0 | exact LLe.refl _ | exact lle_none | refine lle_up ?_ rfl)) (fun _ _ hh hl => lo_conv_in rfl (by rw [Tryz.underlying5]; rfl) Tryz.underlying25 (rg_u64 (by omega))) ?_
  have := numB_len (numK 1) (d.kind).toNat
  have := numK_le 1
  have : numK 1 = 1 := by decide
  refine vw_qc 3 rfl (by kernel_rfl) (by repeat (first | exact lle_l0 | exact LLe.refl _ | exact lle_none | refine lle_up ?_ rfl)) (r1_Num _ d.kind (by omega) 1 (by omega)) (en_f cb121 rfl) ?_
  refine vw_q 4 rfl (by kernel_rfl) (by repeat (first | exact lle_l0 | exact LLe.refl _ | exact lle_none | refine lle_up ?_ rfl)) (fun _ _ hh hl => lo_fieldAddr rfl fl66_1) ?_
  refine vw_q 5 rfl (by kernel_rfl) (by repeat (first | exact lle_l0 | exact LLe.refl _ | exact lle_none | refine lle_up ?_ rfl)) (fun _ _ hh hl => lo_load1 (i := 0) (v := .int _ _) rfl ag25 (hl _ _ rfl) rfl) ?_
  have := numB_len (numK 8) (d.tick).toNat
  have := numK_le 8
  have : numK 8 = 8 := by decide
  refine vw_qc 6 rfl (by kernel_rfl) (by repeat (first | exact lle_l0 | exact LLe.refl _ | exact lle_none | refine lle_up ?_ rfl)) (r1_Num _ d.tick (by omega) 8 (by omega)) (en_f cb121 rfl) ?_
  refine vw_q 7 rfl (by kernel_rfl) (by repeat (first | exact lle_l0 | exact LLe.refl _ | exact lle_none | refine lle_up ?_ rfl)) (fun _ _ hh hl => lo_cat rfl rfl (by first | omega | (simp only [List.length_append, List.length_cons, List.length_nil, numB_len]; omega))) ?_
  refine vw_q 8 rfl (by kernel_rfl) (by repeat (first | exact lle_l0 | exact LLe.refl _ | exact lle_none | refine lle_up ?_ rfl)) (fun _ _ hh hl => lo_assign (v := str _) rfl) ?_
  refine vw_done (by kernel_rfl) (seqK_n (cw_seq (cw_seq (cw_region (ol rfl (lo_fieldAddr rfl fl66_0) ?_)))))
  refine ol rfl (lo_load1 (i := 0) (v := .int _ _) rfl ag5 rfl rfl) (ow_nil (seqK_n (cw_block (cw_seq (cw_region ?_)))))
  refine ol rfl (lo_eql rfl rfl) (oab rfl rfl (ow_nil (seqK_n (cw_cond rfl (fun h2 => ?_) (fun h2 => ?_)))))
  · have p3 := dt h2
    refine cw_seq (cw_anyL mixd (vw_q 0 rfl (by kernel_rfl) (by repeat (first | exact lle_l0 | exact LLe.refl _ | exact lle_none | refine lle_up ?_ rfl)) (fun _ _ hh hl => lo_move (v := str _) rfl) ?_))
    refine vw_q 1 rfl (by kernel_rfl) (by repeat (first | exact lle_l0 | exact LLe.refl _ | exact lle_none | refine lle_up ?_ rfl)) (fun _ _ hh hl => lo_fieldAddr rfl fl66_2) ?_
    refine vw_q 2 rfl (by kernel_rfl) (by repeat (first | exact lle_l0 | exact LLe.refl _ | exact lle_none | refine lle_up ?_ rfl)) (fun _ _ hh hl => lo_fieldAddr rfl fl62_0) ?_
    refine vw_q 3 rfl (by kernel_rfl) (by repeat (first | exact lle_l0 | exact LLe.refl _ | exact lle_none | refine lle_up ?_ rfl)) (fun _ _ hh hl => lo_load1 (i := 0) (v := str _) rfl ag9 (hl _ _ rfl) rfl) ?_
    have := txtB_len d.shop.name
    refine vw_qc 4 rfl (by kernel_rfl) (by repeat (first | exact lle_l0 | exact LLe.refl _ | exact lle_none | refine lle_up ?_ rfl)) (r1_Text _ d.shop.name (by first | omega | (simp; done) | (simp; omega))) (en_f cb122 rfl) ?_
    refine vw_q 5 rfl (by kernel_rfl) (by repeat (first | exact lle_l0 | exact LLe.refl _ | exact lle_none | refine lle_up ?_ rfl)) (fun _ _ hh hl => lo_cat rfl rfl (by first | omega | (simp only [List.length_append, List.length_cons, List.length_nil, numB_len]; omega))) ?_
    refine vw_q 6 rfl (by kernel_rfl) (by repeat (first | exact lle_l0 | exact LLe.refl _ | exact lle_none | refine lle_up ?_ rfl)) (fun _ _ hh hl => lo_fieldAddr rfl fl66_2) ?_
    refine vw_q 7 rfl (by kernel_rfl) (by repeat (first | exact lle_l0 | exact LLe.refl _ | exact lle_none | refine lle_up ?_ rfl)) (fun _ _ hh hl => lo_fieldAddr rfl fl62_1) ?_
    refine vw_q 8 rfl (by kernel_rfl) (by repeat (first | exact lle_l0 | exact LLe.refl _ | exact lle_none | refine lle_up ?_ rfl)) (fun _ _ hh hl => lo_load1 (i := 0) (v := .int _ _) rfl ag5 (hl _ _ rfl) rfl) ?_
    refine vw_q 9 rfl (by kernel_rfl) (by repeat (first | exact lle_l0 | exact LLe.refl _ | exact lle_none | refine lle_up ?_ rfl)) (fun _ _ hh hl => lo_conv_in rfl (by rw [Tryz.underlying5]; rfl) Tryz.underlying25 (rg_u64 (by omega))) ?_
    have := numB_len (numK 1) (d.shop.sort).toNat
    have := numK_le 1
    have : numK 1 = 1 := by decide
    refine vw_qc 10 rfl (by kernel_rfl) (by repeat (first | exact lle_l0 | exact LLe.refl _ | exact lle_none | refine lle_up ?_ rfl)) (r1_Num _ d.shop.sort (by omega) 1 (by omega)) (en_f cb121 rfl) ?_
    refine vw_q 11 rfl (by kernel_rfl) (by repeat (first | exact lle_l0 | exact LLe.refl _ | exact lle_none | refine lle_up ?_ rfl)) (fun _ _ hh hl => lo_cat rfl rfl (by first | omega | (simp only [List.length_append, List.length_cons, List.length_nil, numB_len]; omega))) ?_
    refine vw_q 12 rfl (by kernel_rfl) (by repeat (first | exact lle_l0 | exact LLe.refl _ | exact lle_none | refine lle_up ?_ rfl)) (fun _ _ hh hl => lo_fieldAddr rfl fl66_2) ?_
    refine vw_q 13 rfl (by kernel_rfl) (by repeat (first | exact lle_l0 | exact LLe.refl _ | exact lle_none | refine lle_up ?_ rfl)) (fun _ _ hh hl => lo_fieldAddr rfl fl62_2) ?_
    refine vw_q 14 rfl (by kernel_rfl) (by repeat (first | exact lle_l0 | exact LLe.refl _ | exact lle_none | refine lle_up ?_ rfl)) (fun _ _ hh hl => lo_load1 (i := 0) (v := str _) rfl ag9 (hl _ _ rfl) rfl) ?_
    have := txtB_len d.shop.to
    refine vw_qc 15 rfl (by kernel_rfl) (by repeat (first | exact lle_l0 | exact LLe.refl _ | exact lle_none | refine lle_up ?_ rfl)) (r1_Text _ d.shop.to (by first | omega | (simp; done) | (simp; omega))) (en_f cb122 rfl) ?_
    refine vw_q 16 rfl (by kernel_rfl) (by repeat (first | exact lle_l0 | exact LLe.refl _ | exact lle_none | refine lle_up ?_ rfl)) (fun _ _ hh hl => lo_cat rfl rfl (by first | omega | (simp only [List.length_append, List.length_cons, List.length_nil, numB_len]; omega))) ?_
    refine vw_q 17 rfl (by kernel_rfl) (by repeat (first | exact lle_l0 | exact LLe.refl _ | exact lle_none | refine lle_up ?_ rfl)) (fun _ _ hh hl => lo_assign (v := str _) rfl) ?_
    refine vw_done (by kernel_rfl) (seqK_n (cw_ret (blkK_r (seqK_r (fnK_r (res1 rfl (rv_t (v := str _) rfl)) (.refl _) ?_)))))
    have k1 : numK 1 = 1 := by decide
    have k8 : numK 8 = 8 := by decide
    simp only [k1, k8, List.append_assoc]
    unfold deedB
    (repeat (first | rw [if_pos (by omega)] | rw [if_neg (by omega)] | rw [if_pos (by assumption)] | rw [if_neg (by assumption)] | rw [if_neg (fun q => q (by assumption))]))
    all_goals first | done | rfl | (simp only [List.append_assoc, List.append_nil]; done)
  have p4 := df h2
  refine cw_seq (cw_region (ol rfl (lo_eql rfl rfl) (oab rfl rfl (ow_nil (seqK_n ?_)))))
  refine cw_cond rfl (fun h5 => ?_) (fun h5 => ?_)
  · have p6 := dt h5
    refine cw_seq (cw_anyL mixd (vw_q 0 rfl (by kernel_rfl) (by repeat (first | exact lle_l0 | exact LLe.refl _ | exact lle_none | refine lle_up ?_ rfl)) (fun _ _ hh hl => lo_move (v := str _) rfl) ?_))
    refine vw_q 1 rfl (by kernel_rfl) (by repeat (first | exact lle_l0 | exact LLe.refl _ | exact lle_none | refine lle_up ?_ rfl)) (fun _ _ hh hl => lo_fieldAddr rfl fl66_3) ?_
    refine vw_q 2 rfl (by kernel_rfl) (by repeat (first | exact lle_l0 | exact LLe.refl _ | exact lle_none | refine lle_up ?_ rfl)) (fun _ _ hh hl => lo_fieldAddr rfl fl63_0) ?_
    refine vw_q 3 rfl (by kernel_rfl) (by repeat (first | exact lle_l0 | exact LLe.refl _ | exact lle_none | refine lle_up ?_ rfl)) (fun _ _ hh hl => lo_load1 (i := 0) (v := str _) rfl ag9 (hl _ _ rfl) rfl) ?_
    have := txtB_len d.queue.name
    refine vw_qc 4 rfl (by kernel_rfl) (by repeat (first | exact lle_l0 | exact LLe.refl _ | exact lle_none | refine lle_up ?_ rfl)) (r1_Text _ d.queue.name (by first | omega | (simp; done) | (simp; omega))) (en_f cb122 rfl) ?_
    refine vw_q 5 rfl (by kernel_rfl) (by repeat (first | exact lle_l0 | exact LLe.refl _ | exact lle_none | refine lle_up ?_ rfl)) (fun _ _ hh hl => lo_cat rfl rfl (by first | omega | (simp only [List.length_append, List.length_cons, List.length_nil, numB_len]; omega))) ?_
    refine vw_q 6 rfl (by kernel_rfl) (by repeat (first | exact lle_l0 | exact LLe.refl _ | exact lle_none | refine lle_up ?_ rfl)) (fun _ _ hh hl => lo_fieldAddr rfl fl66_3) ?_
    refine vw_q 7 rfl (by kernel_rfl) (by repeat (first | exact lle_l0 | exact LLe.refl _ | exact lle_none | refine lle_up ?_ rfl)) (fun _ _ hh hl => lo_fieldAddr rfl fl63_1) ?_
    refine vw_q 8 rfl (by kernel_rfl) (by repeat (first | exact lle_l0 | exact LLe.refl _ | exact lle_none | refine lle_up ?_ rfl)) (fun _ _ hh hl => lo_load1 (i := 0) (v := .int _ _) rfl ag25 (hl _ _ rfl) rfl) ?_
    have := numB_len (numK 8) (d.queue.most).toNat
    have := numK_le 8
    have : numK 8 = 8 := by decide
    refine vw_qc 9 rfl (by kernel_rfl) (by repeat (first | exact lle_l0 | exact LLe.refl _ | exact lle_none | refine lle_up ?_ rfl)) (r1_Num _ d.queue.most (by omega) 8 (by omega)) (en_f cb121 rfl) ?_
    refine vw_q 10 rfl (by kernel_rfl) (by repeat (first | exact lle_l0 | exact LLe.refl _ | exact lle_none | refine lle_up ?_ rfl)) (fun _ _ hh hl => lo_cat rfl rfl (by first | omega | (simp only [List.length_append, List.length_cons, List.length_nil, numB_len]; omega))) ?_
    refine vw_q 11 rfl (by kernel_rfl) (by repeat (first | exact lle_l0 | exact LLe.refl _ | exact lle_none | refine lle_up ?_ rfl)) (fun _ _ hh hl => lo_fieldAddr rfl fl66_3) ?_
    refine vw_q 12 rfl (by kernel_rfl) (by repeat (first | exact lle_l0 | exact LLe.refl _ | exact lle_none | refine lle_up ?_ rfl)) (fun _ _ hh hl => lo_fieldAddr rfl fl63_2) ?_
    refine vw_q 13 rfl (by kernel_rfl) (by repeat (first | exact lle_l0 | exact LLe.refl _ | exact lle_none | refine lle_up ?_ rfl)) (fun _ _ hh hl => lo_load1 (i := 0) (v := .int _ _) rfl ag25 (hl _ _ rfl) rfl) ?_
    have := numB_len (numK 8) (d.queue.life).toNat
    have := numK_le 8
    have : numK 8 = 8 := by decide
    refine vw_qc 14 rfl (by kernel_rfl) (by repeat (first | exact lle_l0 | exact LLe.refl _ | exact lle_none | refine lle_up ?_ rfl)) (r1_Num _ d.queue.life (by omega) 8 (by omega)) (en_f cb121 rfl) ?_
    refine vw_q 15 rfl (by kernel_rfl) (by repeat (first | exact lle_l0 | exact LLe.refl _ | exact lle_none | refine lle_up ?_ rfl)) (fun _ _ hh hl => lo_cat rfl rfl (by first | omega | (simp only [List.length_append, List.length_cons, List.length_nil, numB_len]; omega))) ?_
    refine vw_q 16 rfl (by kernel_rfl) (by repeat (first | exact lle_l0 | exact LLe.refl _ | exact lle_none | refine lle_up ?_ rfl)) (fun _ _ hh hl => lo_fieldAddr rfl fl66_3) ?_
    refine vw_q 17 rfl (by kernel_rfl) (by repeat (first | exact lle_l0 | exact LLe.refl _ | exact lle_none | refine lle_up ?_ rfl)) (fun _ _ hh hl => lo_fieldAddr rfl fl63_3) ?_
    refine vw_q 18 rfl (by kernel_rfl) (by repeat (first | exact lle_l0 | exact LLe.refl _ | exact lle_none | refine lle_up ?_ rfl)) (fun _ _ hh hl => lo_load1 (i := 0) (v := str _) rfl ag9 (hl _ _ rfl) rfl) ?_
    have := txtB_len d.queue.dead
    refine vw_qc 19 rfl (by kernel_rfl) (by repeat (first | exact lle_l0 | exact LLe.refl _ | exact lle_none | refine lle_up ?_ rfl)) (r1_Text _ d.queue.dead (by first | omega | (simp; done) | (simp; omega))) (en_f cb122 rfl) ?_
    refine vw_q 20 rfl (by kernel_rfl) (by repeat (first | exact lle_l0 | exact LLe.refl _ | exact lle_none | refine lle_up ?_ rfl)) (fun _ _ hh hl => lo_cat rfl rfl (by first | omega | (simp only [List.length_append, List.length_cons, List.length_nil, numB_len]; omega))) ?_
    refine vw_q 21 rfl (by kernel_rfl) (by repeat (first | exact lle_l0 | exact LLe.refl _ | exact lle_none | refine lle_up ?_ rfl)) (fun _ _ hh hl => lo_assign (v := str _) rfl) ?_
    refine vw_done (by kernel_rfl) (seqK_n (cw_ret (blkK_r (seqK_r (fnK_r (res1 rfl (rv_t (v := str _) rfl)) (.refl _) ?_)))))
    have k1 : numK 1 = 1 := by decide
    have k8 : numK 8 = 8 := by decide
    simp only [k1, k8, List.append_assoc]
    unfold deedB
    (repeat (first | rw [if_pos (by omega)] | rw [if_neg (by omega)] | rw [if_pos (by assumption)] | rw [if_neg (by assumption)] | rw [if_neg (fun q => q (by assumption))]))
    all_goals first | done | rfl | (simp only [List.append_assoc, List.append_nil]; done)
  have p7 := df h5
  refine cw_seq (cw_seq (cw_region (ol rfl (lo_eql rfl rfl) (oab rfl rfl (ow_nil ?_)))))
  refine seqK_n (cw_cond rfl (fun h8 => ?_) (fun h8 => ?_))
  · have p9 := dt h8
    refine cw_skip (seqK_n (cw_cond_t rfl h8 (cw_seq (cw_region (ol rfl (lo_fieldAddr rfl fl66_4) ?_)))))
    refine ol rfl (lo_loadA (i := 0) (vs := [_, _, _, _, _, _]) rfl ag64 sz64 rfl rfl rfl) (ow1 (op1_alloc 1 rfl zr64 (fun b10 => ?_)))
    refine ow1 (op1_storeAll (i := 1) (vs := [_, _, _, _, _, _]) rfl rfl rfl sz64 rfl rfl rfl ?_)
    refine ow_nil (seqK_n (cw_seq (cw_anyL mixd (vw_q 0 rfl (by kernel_rfl) (by repeat (first | exact lle_l0 | exact LLe.refl _ | exact lle_none | refine lle_up ?_ rfl)) (fun _ _ hh hl => lo_move (v := str _) rfl) ?_))))
    refine vw_q 1 rfl (by kernel_rfl) (by repeat (first | exact lle_l0 | exact LLe.refl _ | exact lle_none | refine lle_up ?_ rfl)) (fun _ _ hh hl => lo_fieldAddr rfl fl64_0) ?_
    refine vw_q 2 rfl (by kernel_rfl) (by repeat (first | exact lle_l0 | exact LLe.refl _ | exact lle_none | refine lle_up ?_ rfl)) (fun _ _ hh hl => lo_load1 (i := 1) (v := str _) rfl ag9 (hl _ _ rfl) rfl) ?_
    have := txtB_len d.bind.shop
    refine vw_qc 3 rfl (by kernel_rfl) (by repeat (first | exact lle_l0 | exact LLe.refl _ | exact lle_none | refine lle_up ?_ rfl)) (r1_Text _ d.bind.shop (by first | omega | (simp; done) | (simp; omega))) (en_f cb122 rfl) ?_
    refine vw_q 4 rfl (by kernel_rfl) (by repeat (first | exact lle_l0 | exact LLe.refl _ | exact lle_none | refine lle_up ?_ rfl)) (fun _ _ hh hl => lo_cat rfl rfl (by first | omega | (simp only [List.length_append, List.length_cons, List.length_nil, numB_len]; omega))) ?_
    refine vw_q 5 rfl (by kernel_rfl) (by repeat (first | exact lle_l0 | exact LLe.refl _ | exact lle_none | refine lle_up ?_ rfl)) (fun _ _ hh hl => lo_fieldAddr rfl fl64_1) ?_
    refine vw_q 6 rfl (by kernel_rfl) (by repeat (first | exact lle_l0 | exact LLe.refl _ | exact lle_none | refine lle_up ?_ rfl)) (fun _ _ hh hl => lo_load1 (i := 1) (v := str _) rfl ag9 (hl _ _ rfl) rfl) ?_
    have := txtB_len d.bind.to
    refine vw_qc 7 rfl (by kernel_rfl) (by repeat (first | exact lle_l0 | exact LLe.refl _ | exact lle_none | refine lle_up ?_ rfl)) (r1_Text _ d.bind.to (by first | omega | (simp; done) | (simp; omega))) (en_f cb122 rfl) ?_
    refine vw_q 8 rfl (by kernel_rfl) (by repeat (first | exact lle_l0 | exact LLe.refl _ | exact lle_none | refine lle_up ?_ rfl)) (fun _ _ hh hl => lo_cat rfl rfl (by first | omega | (simp only [List.length_append, List.length_cons, List.length_nil, numB_len]; omega))) ?_
    refine vw_q 9 rfl (by kernel_rfl) (by repeat (first | exact lle_l0 | exact LLe.refl _ | exact lle_none | refine lle_up ?_ rfl)) (fun _ _ hh hl => lo_fieldAddr rfl fl64_2) ?_
    refine vw_q 10 rfl (by kernel_rfl) (by repeat (first | exact lle_l0 | exact LLe.refl _ | exact lle_none | refine lle_up ?_ rfl)) (fun _ _ hh hl => lo_load1 (i := 1) (v := .bool _) rfl ag4 (hl _ _ rfl) rfl) ?_
    refine vw_qc 11 rfl (by kernel_rfl) (by repeat (first | exact lle_l0 | exact LLe.refl _ | exact lle_none | refine lle_up ?_ rfl)) (r22_bit _ d.bind.up) (en_f cb123 rfl) ?_
    refine vw_q 12 rfl (by kernel_rfl) (by repeat (first | exact lle_l0 | exact LLe.refl _ | exact lle_none | refine lle_up ?_ rfl)) (fun _ _ hh hl => lo_cat rfl rfl (by first | omega | (simp only [List.length_append, List.length_cons, List.length_nil, numB_len]; omega))) ?_
    refine vw_q 13 rfl (by kernel_rfl) (by repeat (first | exact lle_l0 | exact LLe.refl _ | exact lle_none | refine lle_up ?_ rfl)) (fun _ _ hh hl => lo_fieldAddr rfl fl64_3) ?_
    refine vw_q 14 rfl (by kernel_rfl) (by repeat (first | exact lle_l0 | exact LLe.refl _ | exact lle_none | refine lle_up ?_ rfl)) (fun _ _ hh hl => lo_load1 (i := 1) (v := str _) rfl ag9 (hl _ _ rfl) rfl) ?_
    have := txtB_len d.bind.key
    refine vw_qc 15 rfl (by kernel_rfl) (by repeat (first | exact lle_l0 | exact LLe.refl _ | exact lle_none | refine lle_up ?_ rfl)) (r1_Text _ d.bind.key (by first | omega | (simp; done) | (simp; omega))) (en_f cb122 rfl) ?_
    refine vw_q 16 rfl (by kernel_rfl) (by repeat (first | exact lle_l0 | exact LLe.refl _ | exact lle_none | refine lle_up ?_ rfl)) (fun _ _ hh hl => lo_cat rfl rfl (by first | omega | (simp only [List.length_append, List.length_cons, List.length_nil, numB_len]; omega))) ?_
    refine vw_q 17 rfl (by kernel_rfl) (by repeat (first | exact lle_l0 | exact LLe.refl _ | exact lle_none | refine lle_up ?_ rfl)) (fun _ _ hh hl => lo_fieldAddr rfl fl64_4) ?_
    refine vw_q 18 rfl (by kernel_rfl) (by repeat (first | exact lle_l0 | exact LLe.refl _ | exact lle_none | refine lle_up ?_ rfl)) (fun _ _ hh hl => lo_load1 (i := 1) (v := .slice _ _ _) rfl ag26 (hl _ _ rfl) rfl) ?_
    have hsmx : smallH d.bind.want := by first | assumption | exact smallH_lightR (by assumption) | exact smallH_light (by assumption)
    have := r9B_len hsmx
    have := hsmx.1
    refine vw_qc 19 rfl (by kernel_rfl) (by repeat (first | exact lle_l0 | exact LLe.refl _ | exact lle_none | refine lle_up ?_ rfl)) (r9_Bytes _ d_bind_want_a d.bind.want.length d_bind_want_c d.bind.want d_bind_want_h (by first | assumption | exact smallH_lightR (by assumption) | exact smallH_light (by assumption))) (en_f cb124 rfl) ?_
    refine vw_q 20 rfl (by kernel_rfl) (by repeat (first | exact lle_l0 | exact LLe.refl _ | exact lle_none | refine lle_up ?_ rfl)) (fun _ _ hh hl => lo_cat rfl rfl (by first | omega | (simp only [List.length_append, List.length_cons, List.length_nil, numB_len]; omega))) ?_
    refine vw_q 21 rfl (by kernel_rfl) (by repeat (first | exact lle_l0 | exact LLe.refl _ | exact lle_none | refine lle_up ?_ rfl)) (fun _ _ hh hl => lo_fieldAddr rfl fl64_5) ?_
    refine vw_q 22 rfl (by kernel_rfl) (by repeat (first | exact lle_l0 | exact LLe.refl _ | exact lle_none | refine lle_up ?_ rfl)) (fun _ _ hh hl => lo_load1 (i := 1) (v := .bool _) rfl ag4 (hl _ _ rfl) rfl) ?_
    refine vw_qc 23 rfl (by kernel_rfl) (by repeat (first | exact lle_l0 | exact LLe.refl _ | exact lle_none | refine lle_up ?_ rfl)) (r22_bit _ d.bind.all) (en_f cb123 rfl) ?_
    refine vw_q 24 rfl (by kernel_rfl) (by repeat (first | exact lle_l0 | exact LLe.refl _ | exact lle_none | refine lle_up ?_ rfl)) (fun _ _ hh hl => lo_cat rfl rfl (by first | omega | (simp only [List.length_append, List.length_cons, List.length_nil, numB_len]; omega))) ?_
    refine vw_q 25 rfl (by kernel_rfl) (by repeat (first | exact lle_l0 | exact LLe.refl _ | exact lle_none | refine lle_up ?_ rfl)) (fun _ _ hh hl => lo_assign (v := str _) rfl) ?_
    refine vw_done (by kernel_rfl) (seqK_n (cw_ret (blkK_r (seqK_r (fnK_r (res1 rfl (rv_t (v := str _) rfl)) (.refl _) ?_)))))
    have k1 : numK 1 = 1 := by decide
    have k8 : numK 8 = 8 := by decide
    simp only [k1, k8, List.append_assoc]
    unfold deedB
    (repeat (first | rw [if_pos (by omega)] | rw [if_neg (by omega)] | rw [if_pos (by assumption)] | rw [if_neg (by assumption)] | rw [if_neg (fun q => q (by assumption))]))
    all_goals first | done | rfl | (simp only [List.append_assoc, List.append_nil]; done)
  have p11 := df h8
  refine cw_region (ol rfl (lo_eql rfl rfl) (oab rfl rfl (ow_nil (seqK_n (cw_cond rfl (fun h12 => ?_) (fun h12 => ?_))))))
  · have p13 := dt h12
    refine cw_seq (cw_region (ol rfl (lo_fieldAddr rfl fl66_4) (ol rfl (lo_loadA (i := 0) (vs := [_, _, _, _, _, _]) rfl ag64 sz64 rfl rfl rfl) (ow1 (op1_alloc 1 rfl zr64 (fun b14 => ?_))))))
    refine ow1 (op1_storeAll (i := 1) (vs := [_, _, _, _, _, _]) rfl rfl rfl sz64 rfl rfl rfl ?_)
    refine ow_nil (seqK_n (cw_seq (cw_anyL mixd (vw_q 0 rfl (by kernel_rfl) (by repeat (first | exact lle_l0 | exact LLe.refl _ | exact lle_none | refine lle_up ?_ rfl)) (fun _ _ hh hl => lo_move (v := str _) rfl) ?_))))
    refine vw_q 1 rfl (by kernel_rfl) (by repeat (first | exact lle_l0 | exact LLe.refl _ | exact lle_none | refine lle_up ?_ rfl)) (fun _ _ hh hl => lo_fieldAddr rfl fl64_0) ?_
    refine vw_q 2 rfl (by kernel_rfl) (by repeat (first | exact lle_l0 | exact LLe.refl _ | exact lle_none | refine lle_up ?_ rfl)) (fun _ _ hh hl => lo_load1 (i := 1) (v := str _) rfl ag9 (hl _ _ rfl) rfl) ?_
    have := txtB_len d.bind.shop
    refine vw_qc 3 rfl (by kernel_rfl) (by repeat (first | exact lle_l0 | exact LLe.refl _ | exact lle_none | refine lle_up ?_ rfl)) (r1_Text _ d.bind.shop (by first | omega | (simp; done) | (simp; omega))) (en_f cb122 rfl) ?_
    refine vw_q 4 rfl (by kernel_rfl) (by repeat (first | exact lle_l0 | exact LLe.refl _ | exact lle_none | refine lle_up ?_ rfl)) (fun _ _ hh hl => lo_cat rfl rfl (by first | omega | (simp only [List.length_append, List.length_cons, List.length_nil, numB_len]; omega))) ?_
    refine vw_q 5 rfl (by kernel_rfl) (by repeat (first | exact lle_l0 | exact LLe.refl _ | exact lle_none | refine lle_up ?_ rfl)) (fun _ _ hh hl => lo_fieldAddr rfl fl64_1) ?_
    refine vw_q 6 rfl (by kernel_rfl) (by repeat (first | exact lle_l0 | exact LLe.refl _ | exact lle_none | refine lle_up ?_ rfl)) (fun _ _ hh hl => lo_load1 (i := 1) (v := str _) rfl ag9 (hl _ _ rfl) rfl) ?_
    have := txtB_len d.bind.to
    refine vw_qc 7 rfl (by kernel_rfl) (by repeat (first | exact lle_l0 | exact LLe.refl _ | exact lle_none | refine lle_up ?_ rfl)) (r1_Text _ d.bind.to (by first | omega | (simp; done) | (simp; omega))) (en_f cb122 rfl) ?_
    refine vw_q 8 rfl (by kernel_rfl) (by repeat (first | exact lle_l0 | exact LLe.refl _ | exact lle_none | refine lle_up ?_ rfl)) (fun _ _ hh hl => lo_cat rfl rfl (by first | omega | (simp only [List.length_append, List.length_cons, List.length_nil, numB_len]; omega))) ?_
    refine vw_q 9 rfl (by kernel_rfl) (by repeat (first | exact lle_l0 | exact LLe.refl _ | exact lle_none | refine lle_up ?_ rfl)) (fun _ _ hh hl => lo_fieldAddr rfl fl64_2) ?_
    refine vw_q 10 rfl (by kernel_rfl) (by repeat (first | exact lle_l0 | exact LLe.refl _ | exact lle_none | refine lle_up ?_ rfl)) (fun _ _ hh hl => lo_load1 (i := 1) (v := .bool _) rfl ag4 (hl _ _ rfl) rfl) ?_
    refine vw_qc 11 rfl (by kernel_rfl) (by repeat (first | exact lle_l0 | exact LLe.refl _ | exact lle_none | refine lle_up ?_ rfl)) (r22_bit _ d.bind.up) (en_f cb123 rfl) ?_
    refine vw_q 12 rfl (by kernel_rfl) (by repeat (first | exact lle_l0 | exact LLe.refl _ | exact lle_none | refine lle_up ?_ rfl)) (fun _ _ hh hl => lo_cat rfl rfl (by first | omega | (simp only [List.length_append, List.length_cons, List.length_nil, numB_len]; omega))) ?_
    refine vw_q 13 rfl (by kernel_rfl) (by repeat (first | exact lle_l0 | exact LLe.refl _ | exact lle_none | refine lle_up ?_ rfl)) (fun _ _ hh hl => lo_fieldAddr rfl fl64_3) ?_
    refine vw_q 14 rfl (by kernel_rfl) (by repeat (first | exact lle_l0 | exact LLe.refl _ | exact lle_none | refine lle_up ?_ rfl)) (fun _ _ hh hl => lo_load1 (i := 1) (v := str _) rfl ag9 (hl _ _ rfl) rfl) ?_
    have := txtB_len d.bind.key
    refine vw_qc 15 rfl (by kernel_rfl) (by repeat (first | exact lle_l0 | exact LLe.refl _ | exact lle_none | refine lle_up ?_ rfl)) (r1_Text _ d.bind.key (by first | omega | (simp; done) | (simp; omega))) (en_f cb122 rfl) ?_
    refine vw_q 16 rfl (by kernel_rfl) (by repeat (first | exact lle_l0 | exact LLe.refl _ | exact lle_none | refine lle_up ?_ rfl)) (fun _ _ hh hl => lo_cat rfl rfl (by first | omega | (simp only [List.length_append, List.length_cons, List.length_nil, numB_len]; omega))) ?_
    refine vw_q 17 rfl (by kernel_rfl) (by repeat (first | exact lle_l0 | exact LLe.refl _ | exact lle_none | refine lle_up ?_ rfl)) (fun _ _ hh hl => lo_fieldAddr rfl fl64_4) ?_
    refine vw_q 18 rfl (by kernel_rfl) (by repeat (first | exact lle_l0 | exact LLe.refl _ | exact lle_none | refine lle_up ?_ rfl)) (fun _ _ hh hl => lo_load1 (i := 1) (v := .slice _ _ _) rfl ag26 (hl _ _ rfl) rfl) ?_
    have hsmx : smallH d.bind.want := by first | assumption | exact smallH_lightR (by assumption) | exact smallH_light (by assumption)
    have := r9B_len hsmx
    have := hsmx.1
    refine vw_qc 19 rfl (by kernel_rfl) (by repeat (first | exact lle_l0 | exact LLe.refl _ | exact lle_none | refine lle_up ?_ rfl)) (r9_Bytes _ d_bind_want_a d.bind.want.length d_bind_want_c d.bind.want d_bind_want_h (by first | assumption | exact smallH_lightR (by assumption) | exact smallH_light (by assumption))) (en_f cb124 rfl) ?_
    refine vw_q 20 rfl (by kernel_rfl) (by repeat (first | exact lle_l0 | exact LLe.refl _ | exact lle_none | refine lle_up ?_ rfl)) (fun _ _ hh hl => lo_cat rfl rfl (by first | omega | (simp only [List.length_append, List.length_cons, List.length_nil, numB_len]; omega))) ?_
    refine vw_q 21 rfl (by kernel_rfl) (by repeat (first | exact lle_l0 | exact LLe.refl _ | exact lle_none | refine lle_up ?_ rfl)) (fun _ _ hh hl => lo_fieldAddr rfl fl64_5) ?_
    refine vw_q 22 rfl (by kernel_rfl) (by repeat (first | exact lle_l0 | exact LLe.refl _ | exact lle_none | refine lle_up ?_ rfl)) (fun _ _ hh hl => lo_load1 (i := 1) (v := .bool _) rfl ag4 (hl _ _ rfl) rfl) ?_
    refine vw_qc 23 rfl (by kernel_rfl) (by repeat (first | exact lle_l0 | exact LLe.refl _ | exact lle_none | refine lle_up ?_ rfl)) (r22_bit _ d.bind.all) (en_f cb123 rfl) ?_
    refine vw_q 24 rfl (by kernel_rfl) (by repeat (first | exact lle_l0 | exact LLe.refl _ | exact lle_none | refine lle_up ?_ rfl)) (fun _ _ hh hl => lo_cat rfl rfl (by first | omega | (simp only [List.length_append, List.length_cons, List.length_nil, numB_len]; omega))) ?_
    refine vw_q 25 rfl (by kernel_rfl) (by repeat (first | exact lle_l0 | exact LLe.refl _ | exact lle_none | refine lle_up ?_ rfl)) (fun _ _ hh hl => lo_assign (v := str _) rfl) ?_
    refine vw_done (by kernel_rfl) (seqK_n (cw_ret (blkK_r (seqK_r (fnK_r (res1 rfl (rv_t (v := str _) rfl)) (.refl _) ?_)))))
    have k1 : numK 1 = 1 := by decide
    have k8 : numK 8 = 8 := by decide
    simp only [k1, k8, List.append_assoc]
    unfold deedB
    (repeat (first | rw [if_pos (by omega)] | rw [if_neg (by omega)] | rw [if_pos (by assumption)] | rw [if_neg (by assumption)] | rw [if_neg (fun q => q (by assumption))]))
    all_goals first | done | rfl | (simp only [List.append_assoc, List.append_nil]; done)
  have p15 := df h12
  refine cw_seq (cw_region (ol rfl (lo_eql rfl rfl) (oab rfl rfl (ow_nil (seqK_n ?_)))))
  refine cw_cond rfl (fun h16 => ?_) (fun h16 => ?_)
  · have p17 := dt h16
    refine cw_seq (cw_region (ol rfl (lo_move (v := str _) rfl) (ol rfl (lo_fieldAddr rfl fl66_11) (ol rfl (lo_loadA (i := 0) (vs := [_, _, _, _, _, _, _]) rfl ag28 sz28 rfl rfl rfl) ?_))))
    refine ow1 (op1_pr (r13_Bytes _ d.mail d_mail_head_a d_mail_head_c d_mail_head_h (by simp only [Mail.wf]; first | omega | (simp; done) | (simp; omega)) (by first | assumption | omega)) (en_f cb125 rfl) rfl ?_)
    have := mailB_len (m := d.mail) (by first | assumption | omega) (by first | assumption | exact slh_kind (by assumption))
    refine ol rfl (lo_cat rfl rfl (by first | omega | (simp only [List.length_append, List.length_cons, List.length_nil, numB_len]; omega))) (ol rfl (lo_assign (v := str _) rfl) (ow_nil (seqK_n (cw_ret (blkK_r ?_)))))
    refine seqK_r (fnK_r (res1 rfl (rv_t (v := str _) rfl)) (.refl _) ?_)
    have k1 : numK 1 = 1 := by decide
    have k8 : numK 8 = 8 := by decide
    simp only [k1, k8, List.append_assoc]
    unfold deedB
    (repeat (first | rw [if_pos (by omega)] | rw [if_neg (by omega)] | rw [if_pos (by assumption)] | rw [if_neg (by assumption)] | rw [if_neg (fun q => q (by assumption))]))
    all_goals first | done | rfl | (simp only [List.append_assoc, List.append_nil]; done)
  have p18 := df h16
  refine cw_seq (cw_region (ol rfl (lo_eql rfl rfl) (oab rfl rfl (ow_nil (seqK_n ?_)))))
  refine cw_cond rfl (fun h19 => ?_) (fun h19 => ?_)
  · have p20 := dt h19
    refine cw_seq (cw_anyL mixd (vw_q 0 rfl (by kernel_rfl) (by repeat (first | exact lle_l0 | exact LLe.refl _ | exact lle_none | refine lle_up ?_ rfl)) (fun _ _ hh hl => lo_move (v := str _) rfl) ?_))
    refine vw_q 1 rfl (by kernel_rfl) (by repeat (first | exact lle_l0 | exact LLe.refl _ | exact lle_none | refine lle_up ?_ rfl)) (fun _ _ hh hl => lo_fieldAddr rfl fl66_5) ?_
    refine vw_q 2 rfl (by kernel_rfl) (by repeat (first | exact lle_l0 | exact LLe.refl _ | exact lle_none | refine lle_up ?_ rfl)) (fun _ _ hh hl => lo_load1 (i := 0) (v := str _) rfl ag9 (hl _ _ rfl) rfl) ?_
    have := txtB_len d.name
    refine vw_qc 3 rfl (by kernel_rfl) (by repeat (first | exact lle_l0 | exact LLe.refl _ | exact lle_none | refine lle_up ?_ rfl)) (r1_Text _ d.name (by first | omega | (simp; done) | (simp; omega))) (en_f cb122 rfl) ?_
    refine vw_q 4 rfl (by kernel_rfl) (by repeat (first | exact lle_l0 | exact LLe.refl _ | exact lle_none | refine lle_up ?_ rfl)) (fun _ _ hh hl => lo_cat rfl rfl (by first | omega | (simp only [List.length_append, List.length_cons, List.length_nil, numB_len]; omega))) ?_
    refine vw_q 5 rfl (by kernel_rfl) (by repeat (first | exact lle_l0 | exact LLe.refl _ | exact lle_none | refine lle_up ?_ rfl)) (fun _ _ hh hl => lo_fieldAddr rfl fl66_6) ?_
    refine vw_q 6 rfl (by kernel_rfl) (by repeat (first | exact lle_l0 | exact LLe.refl _ | exact lle_none | refine lle_up ?_ rfl)) (fun _ _ hh hl => lo_load1 (i := 0) (v := .int _ _) rfl ag25 (hl _ _ rfl) rfl) ?_
    have := numB_len (numK 8) (d.id).toNat
    have := numK_le 8
    have : numK 8 = 8 := by decide
    refine vw_qc 7 rfl (by kernel_rfl) (by repeat (first | exact lle_l0 | exact LLe.refl _ | exact lle_none | refine lle_up ?_ rfl)) (r1_Num _ d.id (by omega) 8 (by omega)) (en_f cb121 rfl) ?_
    refine vw_q 8 rfl (by kernel_rfl) (by repeat (first | exact lle_l0 | exact LLe.refl _ | exact lle_none | refine lle_up ?_ rfl)) (fun _ _ hh hl => lo_cat rfl rfl (by first | omega | (simp only [List.length_append, List.length_cons, List.length_nil, numB_len]; omega))) ?_
    refine vw_q 9 rfl (by kernel_rfl) (by repeat (first | exact lle_l0 | exact LLe.refl _ | exact lle_none | refine lle_up ?_ rfl)) (fun _ _ hh hl => lo_fieldAddr rfl fl66_7) ?_
    refine vw_q 10 rfl (by kernel_rfl) (by repeat (first | exact lle_l0 | exact LLe.refl _ | exact lle_none | refine lle_up ?_ rfl)) (fun _ _ hh hl => lo_load1 (i := 0) (v := .int _ _) rfl ag5 (hl _ _ rfl) rfl) ?_
    refine vw_q 11 rfl (by kernel_rfl) (by repeat (first | exact lle_l0 | exact LLe.refl _ | exact lle_none | refine lle_up ?_ rfl)) (fun _ _ hh hl => lo_conv_in rfl (by rw [Tryz.underlying5]; rfl) Tryz.underlying25 (rg_u64 (by omega))) ?_
    have := numB_len (numK 1) (d.how).toNat
    have := numK_le 1
    have : numK 1 = 1 := by decide
    refine vw_qc 12 rfl (by kernel_rfl) (by repeat (first | exact lle_l0 | exact LLe.refl _ | exact lle_none | refine lle_up ?_ rfl)) (r1_Num _ d.how (by omega) 1 (by omega)) (en_f cb121 rfl) ?_
    refine vw_q 13 rfl (by kernel_rfl) (by repeat (first | exact lle_l0 | exact LLe.refl _ | exact lle_none | refine lle_up ?_ rfl)) (fun _ _ hh hl => lo_cat rfl rfl (by first | omega | (simp only [List.length_append, List.length_cons, List.length_nil, numB_len]; omega))) ?_
    refine vw_q 14 rfl (by kernel_rfl) (by repeat (first | exact lle_l0 | exact LLe.refl _ | exact lle_none | refine lle_up ?_ rfl)) (fun _ _ hh hl => lo_assign (v := str _) rfl) ?_
    refine vw_done (by kernel_rfl) (seqK_n (cw_ret (blkK_r (seqK_r (fnK_r (res1 rfl (rv_t (v := str _) rfl)) (.refl _) ?_)))))
    have k1 : numK 1 = 1 := by decide
    have k8 : numK 8 = 8 := by decide
    simp only [k1, k8, List.append_assoc]
    unfold deedB
    (repeat (first | rw [if_pos (by omega)] | rw [if_neg (by omega)] | rw [if_pos (by assumption)] | rw [if_neg (by assumption)] | rw [if_neg (fun q => q (by assumption))]))
    all_goals first | done | rfl | (simp only [List.append_assoc, List.append_nil]; done)
  have p21 := df h19
  refine cw_seq (cw_seq (cw_region (ol rfl (lo_eql rfl rfl) (oab rfl rfl (ow_nil ?_)))))
  refine seqK_n (cw_cond rfl (fun h22 => ?_) (fun h22 => ?_))
  · have p23 := dt h22
    refine cw_skip (seqK_n (cw_cond_t rfl h22 (cw_seq (cw_region (ol rfl (lo_move (v := str _) rfl) ?_)))))
    refine ol rfl (lo_assign (v := str _) rfl) (ow_nil (seqK_n (cw_ret (blkK_r (seqK_r ?_)))))
    refine fnK_r (res1 rfl (rv_t (v := str _) rfl)) (.refl _) ?_
    have k1 : numK 1 = 1 := by decide
    have k8 : numK 8 = 8 := by decide
    simp only [k1, k8, List.append_assoc]
    unfold deedB
    (repeat (first | rw [if_pos (by omega)] | rw [if_neg (by omega)] | rw [if_pos (by assumption)] | rw [if_neg (by assumption)] | rw [if_neg (fun q => q (by assumption))]))
    all_goals first | done | rfl | (simp only [List.append_assoc, List.append_nil]; done)
  have p24 := df h22
  refine cw_region (ol rfl (lo_eql rfl rfl) (oab rfl rfl (ow_nil (seqK_n (cw_cond rfl (fun h25 => ?_) (fun h25 => ?_))))))
  · have p26 := dt h25
    refine cw_seq (cw_region (ol rfl (lo_move (v := str _) rfl) (ol rfl (lo_assign (v := str _) rfl) (ow_nil (seqK_n ?_)))))
    refine cw_ret (blkK_r (seqK_r (fnK_r (res1 rfl (rv_t (v := str _) rfl)) (.refl _) ?_)))
    have k1 : numK 1 = 1 := by decide
    have k8 : numK 8 = 8 := by decide
    simp only [k1, k8, List.append_assoc]
    unfold deedB
    (repeat (first | rw [if_pos (by omega)] | rw [if_neg (by omega)] | rw [if_pos (by assumption)] | rw [if_neg (by assumption)] | rw [if_neg (fun q => q (by assumption))]))
    all_goals first | done | rfl | (simp only [List.append_assoc, List.append_nil]; done)
  have p27 := df h25
  refine cw_seq (cw_region (ol rfl (lo_eql rfl rfl) (oab rfl rfl (ow_nil (seqK_n ?_)))))
  refine cw_cond rfl (fun h28 => ?_) (fun h28 => ?_)
  · have p29 := dt h28
    refine cw_seq (cw_anyL mixd (vw_q 0 rfl (by kernel_rfl) (by repeat (first | exact lle_l0 | exact LLe.refl _ | exact lle_none | refine lle_up ?_ rfl)) (fun _ _ hh hl => lo_move (v := str _) rfl) ?_))
    refine vw_q 1 rfl (by kernel_rfl) (by repeat (first | exact lle_l0 | exact LLe.refl _ | exact lle_none | refine lle_up ?_ rfl)) (fun _ _ hh hl => lo_fieldAddr rfl fl66_8) ?_
    refine vw_q 2 rfl (by kernel_rfl) (by repeat (first | exact lle_l0 | exact LLe.refl _ | exact lle_none | refine lle_up ?_ rfl)) (fun _ _ hh hl => lo_load1 (i := 0) (v := .int _ _) rfl ag5 (hl _ _ rfl) rfl) ?_
    refine vw_q 3 rfl (by kernel_rfl) (by repeat (first | exact lle_l0 | exact LLe.refl _ | exact lle_none | refine lle_up ?_ rfl)) (fun _ _ hh hl => lo_conv_in rfl (by rw [Tryz.underlying5]; rfl) Tryz.underlying25 (rg_u64 (by omega))) ?_
    have := numB_len (numK 1) (d.frm).toNat
    have := numK_le 1
    have : numK 1 = 1 := by decide
    refine vw_qc 4 rfl (by kernel_rfl) (by repeat (first | exact lle_l0 | exact LLe.refl _ | exact lle_none | refine lle_up ?_ rfl)) (r1_Num _ d.frm (by omega) 1 (by omega)) (en_f cb121 rfl) ?_
    refine vw_q 5 rfl (by kernel_rfl) (by repeat (first | exact lle_l0 | exact LLe.refl _ | exact lle_none | refine lle_up ?_ rfl)) (fun _ _ hh hl => lo_cat rfl rfl (by first | omega | (simp only [List.length_append, List.length_cons, List.length_nil, numB_len]; omega))) ?_
    refine vw_q 6 rfl (by kernel_rfl) (by repeat (first | exact lle_l0 | exact LLe.refl _ | exact lle_none | refine lle_up ?_ rfl)) (fun _ _ hh hl => lo_fieldAddr rfl fl66_10) ?_
    refine vw_q 7 rfl (by kernel_rfl) (by repeat (first | exact lle_l0 | exact LLe.refl _ | exact lle_none | refine lle_up ?_ rfl)) (fun _ _ hh hl => lo_load1 (i := 0) (v := .int _ _) rfl ag25 (hl _ _ rfl) rfl) ?_
    have := numB_len (numK 8) (d.number).toNat
    have := numK_le 8
    have : numK 8 = 8 := by decide
    refine vw_qc 8 rfl (by kernel_rfl) (by repeat (first | exact lle_l0 | exact LLe.refl _ | exact lle_none | refine lle_up ?_ rfl)) (r1_Num _ d.number (by omega) 8 (by omega)) (en_f cb121 rfl) ?_
    refine vw_q 9 rfl (by kernel_rfl) (by repeat (first | exact lle_l0 | exact LLe.refl _ | exact lle_none | refine lle_up ?_ rfl)) (fun _ _ hh hl => lo_cat rfl rfl (by first | omega | (simp only [List.length_append, List.length_cons, List.length_nil, numB_len]; omega))) ?_
    refine vw_q 10 rfl (by kernel_rfl) (by repeat (first | exact lle_l0 | exact LLe.refl _ | exact lle_none | refine lle_up ?_ rfl)) (fun _ _ hh hl => lo_fieldAddr rfl fl66_11) ?_
    refine vw_q 11 rfl (by kernel_rfl) (by repeat (first | exact lle_l0 | exact LLe.refl _ | exact lle_none | refine lle_up ?_ rfl)) (fun _ _ hh hl => lo_loadA (i := 0) (vs := [_, _, _, _, _, _, _]) rfl ag28 sz28 (hl _ _ rfl) rfl rfl) ?_
    have := mailB_len (m := d.mail) (by first | assumption | omega) (by first | assumption | exact slh_kind (by assumption))
    refine vw_qc 12 rfl (by kernel_rfl) (by repeat (first | exact lle_l0 | exact LLe.refl _ | exact lle_none | refine lle_up ?_ rfl)) (r13_Bytes _ d.mail d_mail_head_a d_mail_head_c d_mail_head_h (by simp only [Mail.wf]; first | omega | (simp; done) | (simp; omega)) (by first | assumption | omega)) (en_f cb125 rfl) ?_
    refine vw_q 13 rfl (by kernel_rfl) (by repeat (first | exact lle_l0 | exact LLe.refl _ | exact lle_none | refine lle_up ?_ rfl)) (fun _ _ hh hl => lo_cat rfl rfl (by first | omega | (simp only [List.length_append, List.length_cons, List.length_nil, numB_len]; omega))) ?_
    refine vw_q 14 rfl (by kernel_rfl) (by repeat (first | exact lle_l0 | exact LLe.refl _ | exact lle_none | refine lle_up ?_ rfl)) (fun _ _ hh hl => lo_assign (v := str _) rfl) ?_
    refine vw_done (by kernel_rfl) (seqK_n (cw_ret (blkK_r (seqK_r (fnK_r (res1 rfl (rv_t (v := str _) rfl)) (.refl _) ?_)))))
    have k1 : numK 1 = 1 := by decide
    have k8 : numK 8 = 8 := by decide
    simp only [k1, k8, List.append_assoc]
    unfold deedB
    (repeat (first | rw [if_pos (by omega)] | rw [if_neg (by omega)] | rw [if_pos (by assumption)] | rw [if_neg (by assumption)] | rw [if_neg (fun q => q (by assumption))]))
    all_goals first | done | rfl | (simp only [List.append_assoc, List.append_nil]; done)
  have p30 := df h28
  refine cw_seq (cw_region (ol rfl (lo_eql rfl rfl) (oab rfl rfl (ow_nil (seqK_n ?_)))))
  refine cw_cond rfl (fun h31 => ?_) (fun h31 => ?_)
  · have p32 := dt h31
    refine cw_seq (cw_anyL mixd (vw_q 0 rfl (by kernel_rfl) (by repeat (first | exact lle_l0 | exact LLe.refl _ | exact lle_none | refine lle_up ?_ rfl)) (fun _ _ hh hl => lo_move (v := str _) rfl) ?_))
    refine vw_q 1 rfl (by kernel_rfl) (by repeat (first | exact lle_l0 | exact LLe.refl _ | exact lle_none | refine lle_up ?_ rfl)) (fun _ _ hh hl => lo_fieldAddr rfl fl66_9) ?_
    refine vw_q 2 rfl (by kernel_rfl) (by repeat (first | exact lle_l0 | exact LLe.refl _ | exact lle_none | refine lle_up ?_ rfl)) (fun _ _ hh hl => lo_load1 (i := 0) (v := .int _ _) rfl ag5 (hl _ _ rfl) rfl) ?_
    refine vw_q 3 rfl (by kernel_rfl) (by repeat (first | exact lle_l0 | exact LLe.refl _ | exact lle_none | refine lle_up ?_ rfl)) (fun _ _ hh hl => lo_conv_in rfl (by rw [Tryz.underlying5]; rfl) Tryz.underlying25 (rg_u64 (by omega))) ?_
    have := numB_len (numK 1) (d.code).toNat
    have := numK_le 1
    have : numK 1 = 1 := by decide
    refine vw_qc 4 rfl (by kernel_rfl) (by repeat (first | exact lle_l0 | exact LLe.refl _ | exact lle_none | refine lle_up ?_ rfl)) (r1_Num _ d.code (by omega) 1 (by omega)) (en_f cb121 rfl) ?_
    refine vw_q 5 rfl (by kernel_rfl) (by repeat (first | exact lle_l0 | exact LLe.refl _ | exact lle_none | refine lle_up ?_ rfl)) (fun _ _ hh hl => lo_cat rfl rfl (by first | omega | (simp only [List.length_append, List.length_cons, List.length_nil, numB_len]; omega))) ?_
    refine vw_q 6 rfl (by kernel_rfl) (by repeat (first | exact lle_l0 | exact LLe.refl _ | exact lle_none | refine lle_up ?_ rfl)) (fun _ _ hh hl => lo_fieldAddr rfl fl66_12) ?_
    refine vw_q 7 rfl (by kernel_rfl) (by repeat (first | exact lle_l0 | exact LLe.refl _ | exact lle_none | refine lle_up ?_ rfl)) (fun _ _ hh hl => lo_load1 (i := 0) (v := str _) rfl ag9 (hl _ _ rfl) rfl) ?_
    have := txtB_len d.text
    refine vw_qc 8 rfl (by kernel_rfl) (by repeat (first | exact lle_l0 | exact LLe.refl _ | exact lle_none | refine lle_up ?_ rfl)) (r1_Text _ d.text (by first | omega | (simp; done) | (simp; omega))) (en_f cb122 rfl) ?_
    refine vw_q 9 rfl (by kernel_rfl) (by repeat (first | exact lle_l0 | exact LLe.refl _ | exact lle_none | refine lle_up ?_ rfl)) (fun _ _ hh hl => lo_cat rfl rfl (by first | omega | (simp only [List.length_append, List.length_cons, List.length_nil, numB_len]; omega))) ?_
    refine vw_q 10 rfl (by kernel_rfl) (by repeat (first | exact lle_l0 | exact LLe.refl _ | exact lle_none | refine lle_up ?_ rfl)) (fun _ _ hh hl => lo_assign (v := str _) rfl) ?_
    refine vw_done (by kernel_rfl) (seqK_n (cw_ret (blkK_r (seqK_r (fnK_r (res1 rfl (rv_t (v := str _) rfl)) (.refl _) ?_)))))
    have k1 : numK 1 = 1 := by decide
    have k8 : numK 8 = 8 := by decide
    simp only [k1, k8, List.append_assoc]
    unfold deedB
    (repeat (first | rw [if_pos (by omega)] | rw [if_neg (by omega)] | rw [if_pos (by assumption)] | rw [if_neg (by assumption)] | rw [if_neg (fun q => q (by assumption))]))
    all_goals first | done | rfl | (simp only [List.append_assoc, List.append_nil]; done)
  have p33 := df h31
  refine cw_skip (blkK_n (seqK_n (cw_seq (cw_region (ol rfl (lo_move (v := str _) rfl) ?_)))))
  refine ol rfl (lo_fieldAddr rfl fl66_5) (ol rfl (lo_load1 (i := 0) (v := str _) rfl ag9 rfl rfl) ?_)
  refine ow1 (op1_pr (r1_Text _ d.name (by first | omega | (simp; done) | (simp; omega))) (en_f cb122 rfl) rfl ?_)
  have := txtB_len d.name
  refine ol rfl (lo_cat rfl rfl (by first | omega | (simp only [List.length_append, List.length_cons, List.length_nil, numB_len]; omega))) (ol rfl (lo_assign (v := str _) rfl) (ow_nil (seqK_n (cw_ret (fnK_r (res1 rfl (rv_t (v := str _) rfl)) (.refl _) ?_)))))
  have k1 : numK 1 = 1 := by decide
  have k8 : numK 8 = 8 := by decide
  simp only [k1, k8, List.append_assoc]
  unfold deedB
  (repeat (first | rw [if_pos (by omega)] | rw [if_neg (by omega)] | rw [if_pos (by assumption)] | rw [if_neg (by assumption)] | rw [if_neg (fun q => q (by assumption))]))
  all_goals first | done | rfl | (simp only [List.append_assoc, List.append_nil]; done)
end Go.SW
set_option linter.unusedVariables false
set_option maxRecDepth 100000
set_option maxHeartbeats 4000000
namespace Go.SW
open Go.Proofs
theorem bd66_0u8_1u64_2su8s_3su64u64s_4ssbslb_5s_6u64_7u8_8u8_9u8_10u64_11u64sslsu64u8_12s (a1 : Int) (a2 : Int) (a3 : Bs) (a4 : Int) (a5 : Bs) (a6 : Bs) (a7 : Int) (a8 : Int) (a9 : Bs) (a10 : Bs) (a11 : Bs) (a12 : Bool) (a13 : Bs) (a14 : Option Addr) (a14l a14c : Nat) (a15 : Bool) (a16 : Bs) (a17 : Int) (a18 : Int) (a19 : Int) (a20 : Int) (a21 : Int) (a22 : Int) (a23 : Bs) (a24 : Bs) (a25 : Option Addr) (a25l a25c : Nat) (a26 : Bs) (a27 : Int) (a28 : Int) (a29 : Bs) (w : World) : (Instr.build 66 #[(0, .int .u8 a1), (1, .int .u64 a2), (2, .agg #[str a3, .int .u8 a4, str a5]), (3, .agg #[str a6, .int .u64 a7, .int .u64 a8, str a9]), (4, .agg #[str a10, str a11, .bool a12, str a13, .slice a14 a14l a14c, .bool a15]), (5, str a16), (6, .int .u64 a17), (7, .int .u8 a18), (8, .int .u8 a19), (9, .int .u8 a20), (10, .int .u64 a21), (11, .agg #[.int .u64 a22, str a23, str a24, .slice a25 a25l a25c, str a26, .int .u64 a27, .int .u8 a28]), (12, str a29)]).run Tryz.prog w = .ok (.agg #[.int .u8 a1, .int .u64 a2, str a3, .int .u8 a4, str a5, str a6, .int .u64 a7, .int .u64 a8, str a9, str a10, str a11, .bool a12, str a13, .slice a14 a14l a14c, .bool a15, str a16, .int .u64 a17, .int .u8 a18, .int .u8 a19, .int .u8 a20, .int .u64 a21, .int .u64 a22, str a23, str a24, .slice a25 a25l a25c, str a26, .int .u64 a27, .int .u8 a28, str a29]) w := by kernel_rfl
theorem cb102 : Callable Tryz.prog 102 := callable_of Tryz.func102 (by kernel_rfl) (by kernel_rfl)
theorem cb67 : Callable Tryz.prog 67 := callable_of Tryz.func67 (by kernel_rfl) (by kernel_rfl)
theorem zr66 : Zr Tryz.prog 66 [.int .u8 0, .int .u64 0, str [], .int .u8 0, str [], str [], .int .u64 0, .int .u64 0, str [], str [], str [], .bool false, str [], .slice none 0 0, .bool false, str [], .int .u64 0, .int .u8 0, .int .u8 0, .int .u8 0, .int .u64 0, .int .u64 0, str [], str [], .slice none 0 0, str [], .int .u64 0, .int .u8 0, str []] := fun w => ⟨.agg #[.int .u8 0, .int .u64 0, str [], .int .u8 0, str [], str [], .int .u64 0, .int .u64 0, str [], str [], str [], .bool false, str [], .slice none 0 0, .bool false, str [], .int .u64 0, .int .u8 0, .int .u8 0, .int .u8 0, .int .u64 0, .int .u64 0, str [], str [], .slice none 0 0, str [], .int .u64 0, .int .u8 0, str []], by kernel_rfl, rfl⟩
theorem l13_Light (H : Hp) (m : Mail) (m_head_a : Option Addr) (m_head_c : Nat) (m_head_h : SlH pairE 4 H (.slice m_head_a m.head.length m_head_c) m.head) (m_w : Mail.wf m) : Pr Tryz.prog 67 #[.agg (Mail.cells m m_head_a m_head_c).toArray] H (.bool (lightMl m)) := by
  refine pr_cw Tryz.func67 rfl Tryz.ntmps67 rfl (fun N => ?_)
  have m_w' := m_w
  simp only [Mail.wf] at m_w'
  refine cw_seq (cw_region (ow1 (op1_box (cs := [_, _, _, _, _, _, _]) 0 rfl rfl (fun b1 => ?_))))
  refine oab rfl rfl (ow_nil (seqK_n (cw_seq (cw_region (ol rfl (lo_fieldAddr rfl fl28_1) ?_)))))
  refine ol rfl (lo_load1 (i := 0) (v := str _) rfl ag9 rfl rfl) (ol rfl (lo_len_str rfl Tryz.underlying9) (ol rfl (lo_leq rfl rfl) (omb rfl rfl (ow_sp (j := 4) rfl (fun h2 => ?_) (fun h2 => ?_)))))
  · have p3 := dt h2
    refine ow1 (op1_g rfl h2 rfl (lo_fieldAddr rfl fl28_2) ?_)
    refine ow1 (op1_g rfl h2 rfl (lo_load1 (i := 0) (v := str _) rfl ag9 rfl rfl) ?_)
    refine ow1 (op1_g rfl h2 rfl (lo_len_str rfl Tryz.underlying9) ?_)
    refine ow1 (op1_g rfl h2 rfl (lo_leq rfl rfl) ?_)
    refine ol rfl (lo_pick_t (v := .bool _) rfl h2 rfl) (omb rfl rfl (ow_sp (j := 10) rfl (fun h4 => ?_) (fun h4 => ?_)))
    · have p5 := dt h4
      refine ow1 (op1_g rfl h4 rfl (lo_fieldAddr rfl fl28_3) ?_)
      refine ow1 (op1_g rfl h4 rfl (lo_load1 (i := 0) (v := .slice _ _ _) rfl ag26 rfl rfl) ?_)
      refine ow1 (op1_prg rfl h4 (l09_Light _ m_head_a m.head.length m_head_c m.head m_head_h) (en_f cb83 rfl) rfl ?_)
      refine ol rfl (lo_pick_t (v := .bool _) rfl h4 rfl) (omb rfl rfl (ow_sp (j := 15) rfl (fun h6 => ?_) (fun h6 => ?_)))
      · refine ow1 (op1_g rfl h6 rfl (lo_fieldAddr rfl fl28_4) ?_)
        refine ow1 (op1_g rfl h6 rfl (lo_load1 (i := 0) (v := str _) rfl ag9 rfl rfl) ?_)
        refine ow1 (op1_g rfl h6 rfl (lo_len_str rfl Tryz.underlying9) ?_)
        refine ow1 (op1_g rfl h6 rfl (lo_leq rfl rfl) ?_)
        refine ol rfl (lo_pick_t (v := .bool _) rfl h6 rfl) (oab rfl rfl (ow_nil (seqK_n (cw_ret (fnK_r (res1 rfl (rv_t (v := .bool _) rfl)) (.refl _) ?_)))))
        refine congrArg Value.bool ?_; unfold lightMl; simp only [*, Bool.and_true, Bool.true_and, Bool.false_and, Bool.and_false, decide_true, decide_false]
      refine og rfl h6 rfl (og rfl h6 rfl (og rfl h6 rfl (og rfl h6 rfl (ol rfl (lo_pick_f (v := .bool _) rfl h6 rfl) (oab rfl rfl ?_)))))
      refine ow_nil (seqK_n (cw_ret (fnK_r (res1 rfl (rv_t (v := .bool _) rfl)) (.refl _) ?_)))
      refine congrArg Value.bool ?_; unfold lightMl; simp only [*, Bool.and_true, Bool.true_and, Bool.false_and, Bool.and_false, decide_true, decide_false]
    have p7 := df h4
    refine og rfl h4 rfl (og rfl h4 rfl (og rfl h4 rfl (ol rfl (lo_pick_f (v := .bool _) rfl h4 rfl) (omb rfl rfl (og rfl rfl rfl ?_)))))
    refine og rfl rfl rfl (og rfl rfl rfl (og rfl rfl rfl (ol rfl (lo_pick_f (v := .bool _) rfl rfl rfl) (oab rfl rfl (ow_nil ?_)))))
    refine seqK_n (cw_ret (fnK_r (res1 rfl (rv_t (v := .bool _) rfl)) (.refl _) ?_))
    refine congrArg Value.bool ?_; unfold lightMl; simp only [*, Bool.and_true, Bool.true_and, Bool.false_and, Bool.and_false, decide_true, decide_false]
  have p8 := df h2
  refine og rfl h2 rfl (og rfl h2 rfl (og rfl h2 rfl (og rfl h2 rfl (ol rfl (lo_pick_f (v := .bool _) rfl h2 rfl) (omb rfl rfl ?_)))))
  refine og rfl rfl rfl (og rfl rfl rfl (og rfl rfl rfl (ol rfl (lo_pick_f (v := .bool _) rfl rfl rfl) (omb rfl rfl (og rfl rfl rfl ?_)))))
  refine og rfl rfl rfl (og rfl rfl rfl (og rfl rfl rfl (ol rfl (lo_pick_f (v := .bool _) rfl rfl rfl) (oab rfl rfl (ow_nil ?_)))))
  refine seqK_n (cw_ret (fnK_r (res1 rfl (rv_t (v := .bool _) rfl)) (.refl _) ?_))
  refine congrArg Value.bool ?_; unfold lightMl; simp only [*, Bool.and_true, Bool.true_and, Bool.false_and, Bool.and_false, decide_true, decide_false]
theorem l22_Light (H : Hp) (d : DeedR) (d_bind_want_a : Option Addr) (d_bind_want_c : Nat) (d_bind_want_h : SlH pairE 4 H (.slice d_bind_want_a d.bind.want.length d_bind_want_c) d.bind.want) (d_mail_head_a : Option Addr) (d_mail_head_c : Nat) (d_mail_head_h : SlH pairE 4 H (.slice d_mail_head_a d.mail.head.length d_mail_head_c) d.mail.head) (d_w : DeedR.wf d) : Pr Tryz.prog 30 #[.agg (DeedR.cells d d_bind_want_a d_bind_want_c d_mail_head_a d_mail_head_c).toArray] H (.bool (lightD d)) := by
  refine pr_cw Tryz.func30 rfl Tryz.ntmps30 rfl (fun N => ?_)
  have d_w' := d_w
  simp only [DeedR.wf, ShopR.wf, QueueR.wf, BindR.wf, Mail.wf] at d_w'
  refine cw_seq (cw_region (ow1 (op1_box (cs := [_, _, _, _, _, _, _, _, _, _, _, _, _, _, _, _, _, _, _, _, _, _, _, _, _, _, _, _, _]) 0 rfl rfl (fun b1 => ?_))))
  refine oab rfl rfl (ow_nil (seqK_n (cw_seq (cw_region (ol rfl (lo_fieldAddr rfl fl60_2) ?_)))))
  refine ol rfl (lo_fieldAddr rfl fl54_0) (ol rfl (lo_load1 (i := 0) (v := str _) rfl ag9 rfl rfl) (ol rfl (lo_len_str rfl Tryz.underlying9) (ol rfl (lo_fieldAddr rfl fl60_2) (ol rfl (lo_fieldAddr rfl fl54_2) (ol rfl (lo_load1 (i := 0) (v := str _) rfl ag9 rfl rfl) ?_)))))
  refine ol rfl (lo_len_str rfl Tryz.underlying9) (ol rfl (lo_fieldAddr rfl fl60_3) (ol rfl (lo_fieldAddr rfl fl56_0) (ol rfl (lo_load1 (i := 0) (v := str _) rfl ag9 rfl rfl) (ol rfl (lo_len_str rfl Tryz.underlying9) (ol rfl (lo_fieldAddr rfl fl60_3) ?_)))))
  refine ol rfl (lo_fieldAddr rfl fl56_3) (ol rfl (lo_load1 (i := 0) (v := str _) rfl ag9 rfl rfl) (ol rfl (lo_len_str rfl Tryz.underlying9) (ol rfl (lo_fieldAddr rfl fl60_4) (ol rfl (lo_fieldAddr rfl fl58_0) (ol rfl (lo_load1 (i := 0) (v := str _) rfl ag9 rfl rfl) ?_)))))
  refine ol rfl (lo_len_str rfl Tryz.underlying9) (ol rfl (lo_fieldAddr rfl fl60_4) (ol rfl (lo_fieldAddr rfl fl58_1) (ol rfl (lo_load1 (i := 0) (v := str _) rfl ag9 rfl rfl) (ol rfl (lo_len_str rfl Tryz.underlying9) (ol rfl (lo_fieldAddr rfl fl60_5) ?_)))))
  refine ol rfl (lo_load1 (i := 0) (v := str _) rfl ag9 rfl rfl) (ol rfl (lo_len_str rfl Tryz.underlying9) (ol rfl (lo_maxN (z := (d.shop.name.length : Int)) (r := (max (max (max (max (max (max (d.shop.name.length : Int) (d.shop.to.length : Int)) (d.queue.name.length : Int)) (d.queue.dead.length : Int)) (d.bind.shop.length : Int)) (d.bind.to.length : Int)) (d.name.length : Int))) [(d.shop.to.length : Int), (d.queue.name.length : Int), (d.queue.dead.length : Int), (d.bind.shop.length : Int), (d.bind.to.length : Int), (d.name.length : Int)] rfl rfl) (oai rfl rfl (ow_nil (seqK_n ?_)))))
  refine cw_seq (cw_region (omi rfl rfl (ol rfl (lo_leq rfl rfl) (omb rfl rfl (ow_sp (j := 2) rfl (fun h2 => ?_) (fun h2 => ?_))))))
  · have p3 := dt h2
    refine ow1 (op1_g rfl h2 rfl (lo_fieldAddr rfl fl60_4) ?_)
    refine ow1 (op1_g rfl h2 rfl (lo_fieldAddr rfl fl58_3) ?_)
    refine ow1 (op1_g rfl h2 rfl (lo_load1 (i := 0) (v := str _) rfl ag9 rfl rfl) ?_)
    refine ow1 (op1_g rfl h2 rfl (lo_len_str rfl Tryz.underlying9) ?_)
    refine ow1 (op1_g rfl h2 rfl (lo_fieldAddr rfl fl60_12) ?_)
    refine ow1 (op1_g rfl h2 rfl (lo_load1 (i := 0) (v := str _) rfl ag9 rfl rfl) ?_)
    refine ow1 (op1_g rfl h2 rfl (lo_len_str rfl Tryz.underlying9) ?_)
    refine ow1 (op1_g rfl h2 rfl (lo_max rfl rfl) ?_)
    refine ow1 (op1_g rfl h2 rfl (lo_leq rfl rfl) ?_)
    refine ol rfl (lo_pick_t (v := .bool _) rfl h2 rfl) (omb rfl rfl (ow_sp (j := 13) rfl (fun h4 => ?_) (fun h4 => ?_)))
    · have p5 := dt h4
      refine ow1 (op1_g rfl h4 rfl (lo_fieldAddr rfl fl60_4) ?_)
      refine ow1 (op1_g rfl h4 rfl (lo_fieldAddr rfl fl58_4) ?_)
      refine ow1 (op1_g rfl h4 rfl (lo_load1 (i := 0) (v := .slice _ _ _) rfl ag26 rfl rfl) ?_)
      refine ow1 (op1_prg rfl h4 (l09_Light _ d_bind_want_a d.bind.want.length d_bind_want_c d.bind.want d_bind_want_h) (en_f cb83 rfl) rfl ?_)
      refine ol rfl (lo_pick_t (v := .bool _) rfl h4 rfl) (omb rfl rfl (ow_sp (j := 19) rfl (fun h6 => ?_) (fun h6 => ?_)))
      · refine ow1 (op1_g rfl h6 rfl (lo_fieldAddr rfl fl60_11) ?_)
        refine ow1 (op1_g rfl h6 rfl (lo_loadA (i := 0) (vs := [_, _, _, _, _, _, _]) rfl ag28 sz28 rfl rfl rfl) ?_)
        refine ow1 (op1_prg rfl h6 (l13_Light _ d.mail d_mail_head_a d_mail_head_c d_mail_head_h (by simp only [Mail.wf]; first | omega | (simp; done) | (simp; omega))) (en_f cb67 rfl) rfl ?_)
        have hlx6 := lightMl_len d.mail
        refine ol rfl (lo_pick_t (v := .bool _) rfl h6 rfl) (oab rfl rfl (ow_nil (seqK_n (cw_ret (fnK_r (res1 rfl (rv_t (v := .bool _) rfl)) (.refl _) ?_)))))
        refine congrArg Value.bool ?_; unfold lightD; simp only [*, Bool.and_true, Bool.true_and, Bool.false_and, Bool.and_false, decide_true, decide_false]
      refine og rfl h6 rfl (og rfl h6 rfl (og rfl h6 rfl (ol rfl (lo_pick_f (v := .bool _) rfl h6 rfl) (oab rfl rfl (ow_nil ?_)))))
      refine seqK_n (cw_ret (fnK_r (res1 rfl (rv_t (v := .bool _) rfl)) (.refl _) ?_))
      refine congrArg Value.bool ?_; unfold lightD; simp only [*, Bool.and_true, Bool.true_and, Bool.false_and, Bool.and_false, decide_true, decide_false]
    have p7 := df h4
    refine og rfl h4 rfl (og rfl h4 rfl (og rfl h4 rfl (og rfl h4 rfl (ol rfl (lo_pick_f (v := .bool _) rfl h4 rfl) (omb rfl rfl ?_)))))
    refine og rfl rfl rfl (og rfl rfl rfl (og rfl rfl rfl (ol rfl (lo_pick_f (v := .bool _) rfl rfl rfl) (oab rfl rfl (ow_nil ?_)))))
    refine seqK_n (cw_ret (fnK_r (res1 rfl (rv_t (v := .bool _) rfl)) (.refl _) ?_))
    refine congrArg Value.bool ?_; unfold lightD; simp only [*, Bool.and_true, Bool.true_and, Bool.false_and, Bool.and_false, decide_true, decide_false]
  have p8 := df h2
  refine og rfl h2 rfl (og rfl h2 rfl (og rfl h2 rfl (og rfl h2 rfl (og rfl h2 rfl (og rfl h2 rfl ?_)))))
  refine og rfl h2 rfl (og rfl h2 rfl (og rfl h2 rfl (ol rfl (lo_pick_f (v := .bool _) rfl h2 rfl) (omb rfl rfl (og rfl rfl rfl ?_)))))
  refine og rfl rfl rfl (og rfl rfl rfl (og rfl rfl rfl (ol rfl (lo_pick_f (v := .bool _) rfl rfl rfl) (omb rfl rfl (og rfl rfl rfl ?_)))))
  refine og rfl rfl rfl (og rfl rfl rfl (ol rfl (lo_pick_f (v := .bool _) rfl rfl rfl) (oab rfl rfl (ow_nil (seqK_n ?_)))))
  refine cw_ret (fnK_r (res1 rfl (rv_t (v := .bool _) rfl)) (.refl _) ?_)
  refine congrArg Value.bool ?_; unfold lightD; simp only [*, Bool.and_true, Bool.true_and, Bool.false_and, Bool.and_false, decide_true, decide_false]
theorem l14_To (H : Hp) (x : BindR) (x_want_a : Option Addr) (x_want_c : Nat) (x_want_h : SlH pairE 4 H (.slice x_want_a x.want.length x_want_c) x.want) (x_w : BindR.wf x) (hl : x.want.length ≤ 1000000) : Ph Tryz.prog 102 #[.agg (BindR.cells x x_want_a x_want_c).toArray] H (fun v H' => ∃ (a1 : Option Addr) (c1 : Nat), v = .agg (BindR.cells x a1 c1).toArray ∧ SlH pairE 4 H' (.slice a1 x.want.length c1) x.want) := by
  refine ph_cw Tryz.func102 rfl Tryz.ntmps102 rfl (fun N => ?_)
  have x_w' := x_w
  simp only [BindR.wf] at x_w'
  refine cw_seq (cw_region (ow1 (op1_box (cs := [_, _, _, _, _, _]) 0 rfl rfl (fun b1 => ?_))))
  refine ow1 (op1_alloc 1 rfl zr64 (fun b2 => ?_))
  refine ow_nil (seqK_n (cw_seq (cw_region (ol rfl (lo_loadA (i := 0) (vs := [_, _, _, _, _, _]) rfl ag58 sz58 rfl rfl rfl) (ow1 (op1_alloc 2 rfl zr64 (fun b3 => ?_)))))))
  refine ow1 (op1_storeAll (i := 2) (vs := [_, _, _, _, _, _]) rfl rfl rfl sz64 rfl rfl rfl ?_)
  refine ow_nil (seqK_n (cw_seq (cw_region (ow1 (op1_bslice (cs := []) 3 rfl Tryz.underlying26 sz244 zx244 rfl trivial rfl rfl (by decide) (fun b4 => ?_))))))
  refine ol rfl (lo_fieldAddr rfl fl58_4) (ol rfl (lo_load1 (i := 0) (v := .slice _ _ _) rfl ag26 rfl rfl) (ow1 (op1_app 3 rfl rfl Tryz.underlying26 Tryz.underlying26 rfl sz244 by244 (by decide) zr244 (ownV_bx rfl) (src_slh (enc := Pair.cells) (wf := Pair.wf) (fun _ => rfl) x_want_h) (one_flat (fun _ => rfl) _) rfl (by omega) rfl (fun v5 en6 ho7 => ?_))))
  have ho8 := own_cat0 (enc := Pair.cells) x.want ho7
  refine ol rfl (lo_fieldAddr rfl fl64_4) ?_
  refine ow1 (op1_store1n (i := 2) [_, _, _, _, _, _] rfl rfl (ownV_one ho8) sz26 rfl rfl rfl ?_)
  refine ow_nil (seqK_n (cw_seq (cw_region (ow_giveO 3 rfl (fun _ hl9 hg10 => ?_)))))
  have hs11 := slh_own (enc := Pair.cells) (wf := Pair.wf) (fun _ => rfl) ho8 (slh_wf x_want_h) hg10
  obtain ⟨⟨a12, c13, rfl, -⟩, -⟩ := id hs11
  refine ol rfl (lo_loadA (i := 2) (vs := [_, _, _, _, _, _]) rfl ag64 sz64 rfl rfl rfl) ?_
  refine ow1 (op1_storeAll (i := 1) (vs := [_, _, _, _, _, _]) rfl rfl rfl sz64 rfl rfl rfl ?_)
  refine ow_nil (seqK_n (cw_ret (fnK_r (res1 rfl (rv_c (i := 1) (vs := [_, _, _, _, _, _]) rfl ag64 sz64 rfl rfl rfl)) ((HLe.refl _).trans hl9) ?_)))
  exact ⟨_, _, rfl, hs11⟩
theorem l22_To (H : Hp) (d : DeedR) (d_bind_want_a : Option Addr) (d_bind_want_c : Nat) (d_bind_want_h : SlH pairE 4 H (.slice d_bind_want_a d.bind.want.length d_bind_want_c) d.bind.want) (d_mail_head_a : Option Addr) (d_mail_head_c : Nat) (d_mail_head_h : SlH pairE 4 H (.slice d_mail_head_a d.mail.head.length d_mail_head_c) d.mail.head) (d_w : DeedR.wf d) (hl : d.bind.want.length ≤ 1000000) : Ph Tryz.prog 31 #[.agg (DeedR.cells d d_bind_want_a d_bind_want_c d_mail_head_a d_mail_head_c).toArray] H (fun v H' => ∃ (a1 : Option Addr) (c1 : Nat) (a2 : Option Addr) (c2 : Nat), v = .agg (DeedR.cells d a1 c1 a2 c2).toArray ∧ SlH pairE 4 H' (.slice a1 d.bind.want.length c1) d.bind.want ∧ SlH pairE 4 H' (.slice a2 d.mail.head.length c2) d.mail.head) := by
  refine ph_cw Tryz.func31 rfl Tryz.ntmps31 rfl (fun N => ?_)
  have d_w' := d_w
  simp only [DeedR.wf, ShopR.wf, QueueR.wf, BindR.wf, Mail.wf] at d_w'
  refine cw_seq (cw_region (ow1 (op1_box (cs := [_, _, _, _, _, _, _, _, _, _, _, _, _, _, _, _, _, _, _, _, _, _, _, _, _, _, _, _, _]) 0 rfl rfl (fun b1 => ?_))))
  refine ow1 (op1_alloc 1 rfl zr66 (fun b2 => ?_))
  refine ow_nil (seqK_n (cw_seq (cw_anyX 1 mixd (vw_q 0 rfl (by kernel_rfl) (by repeat (first | exact lle_l0 | exact LLe.refl _ | exact lle_none | refine lle_up ?_ rfl)) (fun _ _ hh hl => lo_fieldAddr rfl fl60_0) ?_))))
  refine vw_q 1 rfl (by kernel_rfl) (by repeat (first | exact lle_l0 | exact LLe.refl _ | exact lle_none | refine lle_up ?_ rfl)) (fun _ _ hh hl => lo_load1 (i := 0) (v := .int _ _) rfl ag5 (hl _ _ rfl) rfl) ?_
  refine vw_q 2 rfl (by kernel_rfl) (by repeat (first | exact lle_l0 | exact LLe.refl _ | exact lle_none | refine lle_up ?_ rfl)) (fun _ _ hh hl => lo_fieldAddr rfl fl60_1) ?_
  refine vw_q 3 rfl (by kernel_rfl) (by repeat (first | exact lle_l0 | exact LLe.refl _ | exact lle_none | refine lle_up ?_ rfl)) (fun _ _ hh hl => lo_load1 (i := 0) (v := .int _ _) rfl ag25 (hl _ _ rfl) rfl) ?_
  refine vw_q 4 rfl (by kernel_rfl) (by repeat (first | exact lle_l0 | exact LLe.refl _ | exact lle_none | refine lle_up ?_ rfl)) (fun _ _ hh hl => lo_fieldAddr rfl fl60_2) ?_
  refine vw_q 5 rfl (by kernel_rfl) (by repeat (first | exact lle_l0 | exact LLe.refl _ | exact lle_none | refine lle_up ?_ rfl)) (fun _ _ hh hl => lo_loadA (i := 0) (vs := [_, _, _]) rfl ag54 sz54 (hl _ _ rfl) rfl rfl) ?_
  refine vw_q 6 rfl (by kernel_rfl) (by repeat (first | exact lle_l0 | exact LLe.refl _ | exact lle_none | refine lle_up ?_ rfl)) (fun _ _ hh hl => lo_fieldAddr rfl fl60_3) ?_
  refine vw_q 7 rfl (by kernel_rfl) (by repeat (first | exact lle_l0 | exact LLe.refl _ | exact lle_none | refine lle_up ?_ rfl)) (fun _ _ hh hl => lo_loadA (i := 0) (vs := [_, _, _, _]) rfl ag56 sz56 (hl _ _ rfl) rfl rfl) ?_
  refine vw_q 8 rfl (by kernel_rfl) (by repeat (first | exact lle_l0 | exact LLe.refl _ | exact lle_none | refine lle_up ?_ rfl)) (fun _ _ hh hl => lo_fieldAddr rfl fl60_4) ?_
  refine vw_q 9 rfl (by kernel_rfl) (by repeat (first | exact lle_l0 | exact LLe.refl _ | exact lle_none | refine lle_up ?_ rfl)) (fun _ _ hh hl => lo_loadA (i := 0) (vs := [_, _, _, _, _, _]) rfl ag58 sz58 (hl _ _ rfl) rfl rfl) ?_
  refine vw_q 11 rfl (by kernel_rfl) (by repeat (first | exact lle_l0 | exact LLe.refl _ | exact lle_none | refine lle_up ?_ rfl)) (fun _ _ hh hl => lo_fieldAddr rfl fl60_5) ?_
  refine vw_q 12 rfl (by kernel_rfl) (by repeat (first | exact lle_l0 | exact LLe.refl _ | exact lle_none | refine lle_up ?_ rfl)) (fun _ _ hh hl => lo_load1 (i := 0) (v := str _) rfl ag9 (hl _ _ rfl) rfl) ?_
  refine vw_q 13 rfl (by kernel_rfl) (by repeat (first | exact lle_l0 | exact LLe.refl _ | exact lle_none | refine lle_up ?_ rfl)) (fun _ _ hh hl => lo_fieldAddr rfl fl60_6) ?_
  refine vw_q 14 rfl (by kernel_rfl) (by repeat (first | exact lle_l0 | exact LLe.refl _ | exact lle_none | refine lle_up ?_ rfl)) (fun _ _ hh hl => lo_load1 (i := 0) (v := .int _ _) rfl ag25 (hl _ _ rfl) rfl) ?_
  refine vw_q 15 rfl (by kernel_rfl) (by repeat (first | exact lle_l0 | exact LLe.refl _ | exact lle_none | refine lle_up ?_ rfl)) (fun _ _ hh hl => lo_fieldAddr rfl fl60_7) ?_
  refine vw_q 16 rfl (by kernel_rfl) (by repeat (first | exact lle_l0 | exact LLe.refl _ | exact lle_none | refine lle_up ?_ rfl)) (fun _ _ hh hl => lo_load1 (i := 0) (v := .int _ _) rfl ag5 (hl _ _ rfl) rfl) ?_
  refine vw_q 17 rfl (by kernel_rfl) (by repeat (first | exact lle_l0 | exact LLe.refl _ | exact lle_none | refine lle_up ?_ rfl)) (fun _ _ hh hl => lo_fieldAddr rfl fl60_8) ?_
  refine vw_q 18 rfl (by kernel_rfl) (by repeat (first | exact lle_l0 | exact LLe.refl _ | exact lle_none | refine lle_up ?_ rfl)) (fun _ _ hh hl => lo_load1 (i := 0) (v := .int _ _) rfl ag5 (hl _ _ rfl) rfl) ?_
  refine vw_q 19 rfl (by kernel_rfl) (by repeat (first | exact lle_l0 | exact LLe.refl _ | exact lle_none | refine lle_up ?_ rfl)) (fun _ _ hh hl => lo_fieldAddr rfl fl60_9) ?_
  refine vw_q 20 rfl (by kernel_rfl) (by repeat (first | exact lle_l0 | exact LLe.refl _ | exact lle_none | refine lle_up ?_ rfl)) (fun _ _ hh hl => lo_load1 (i := 0) (v := .int _ _) rfl ag5 (hl _ _ rfl) rfl) ?_
  refine vw_q 21 rfl (by kernel_rfl) (by repeat (first | exact lle_l0 | exact LLe.refl _ | exact lle_none | refine lle_up ?_ rfl)) (fun _ _ hh hl => lo_fieldAddr rfl fl60_10) ?_
  refine vw_q 22 rfl (by kernel_rfl) (by repeat (first | exact lle_l0 | exact LLe.refl _ | exact lle_none | refine lle_up ?_ rfl)) (fun _ _ hh hl => lo_load1 (i := 0) (v := .int _ _) rfl ag25 (hl _ _ rfl) rfl) ?_
  refine vw_q 23 rfl (by kernel_rfl) (by repeat (first | exact lle_l0 | exact LLe.refl _ | exact lle_none | refine lle_up ?_ rfl)) (fun _ _ hh hl => lo_fieldAddr rfl fl60_11) ?_
  refine vw_q 24 rfl (by kernel_rfl) (by repeat (first | exact lle_l0 | exact LLe.refl _ | exact lle_none | refine lle_up ?_ rfl)) (fun _ _ hh hl => lo_loadA (i := 0) (vs := [_, _, _, _, _, _, _]) rfl ag28 sz28 (hl _ _ rfl) rfl rfl) ?_
  refine vw_q 25 rfl (by kernel_rfl) (by repeat (first | exact lle_l0 | exact LLe.refl _ | exact lle_none | refine lle_up ?_ rfl)) (fun _ _ hh hl => lo_fieldAddr rfl fl60_12) ?_
  refine vw_q 26 rfl (by kernel_rfl) (by repeat (first | exact lle_l0 | exact LLe.refl _ | exact lle_none | refine lle_up ?_ rfl)) (fun _ _ hh hl => lo_load1 (i := 0) (v := str _) rfl ag9 (hl _ _ rfl) rfl) ?_
  refine vw_e 10 rfl (by kernel_rfl) (op1_ph (l14_To _ d.bind d_bind_want_a d_bind_want_c d_bind_want_h (by simp only [BindR.wf]; first | omega | (simp; done) | (simp; omega)) (by first | omega | (have := lightD_len d (by assumption); omega))) (en_f cb102 rfl) rfl ?_)
  rintro _ H7 ⟨a3, c4, rfl, hs5⟩ hl6
  refine ⟨⟨((HLe.refl _).trans hl6), (by repeat (first | exact lle_l0 | exact LLe.refl _ | exact lle_none | refine lle_up ?_ rfl))⟩, ?_⟩
  refine vw_q 27 rfl (by kernel_rfl) (by repeat (first | exact lle_l0 | exact LLe.refl _ | exact lle_none | refine lle_up ?_ rfl)) (fun _ _ hh hl => lo_build (v := .agg #[_, _, _, _, _, _, _, _, _, _, _, _, _, _, _, _, _, _, _, _, _, _, _, _, _, _, _, _, _]) rfl (bd66_0u8_1u64_2su8s_3su64u64s_4ssbslb_5s_6u64_7u8_8u8_9u8_10u64_11u64sslsu64u8_12s _ _ _ _ _ _ _ _ _ _ _ _ _ _ _ _ _ _ _ _ _ _ _ _ _ _ _ _ _ _ _ _ _)) ?_
  refine vw_t 28 rfl (by kernel_rfl) (by kernel_rfl) (op1_storeAll (i := 1) (vs := [_, _, _, _, _, _, _, _, _, _, _, _, _, _, _, _, _, _, _, _, _, _, _, _, _, _, _, _, _]) rfl rfl rfl sz66 rfl rfl rfl ?_)
  refine vw_done (by kernel_rfl) (seqK_n (cw_ret (fnK_r (res1 rfl (rv_c (i := 1) (vs := [_, _, _, _, _, _, _, _, _, _, _, _, _, _, _, _, _, _, _, _, _, _, _, _, _, _, _, _, _]) rfl ag66 sz66 rfl rfl rfl)) ((HLe.refl _).trans hl6) ?_)))
  exact ⟨_, _, _, _, rfl, hs5, (d_mail_head_h.mono ((HLe.refl _).trans hl6) (fun _ _ h => h))⟩
end Go.SW
set_option linter.unusedVariables false
set_option maxRecDepth 100000
set_option maxHeartbeats 4000000
namespace Go.SW
open Go.Proofs
theorem ag278 : Ag Tryz.prog 278 false := fun w => by kernel_rfl
theorem bd54  (w : World) : (Instr.build 54 #[]).run Tryz.prog w = .ok (.agg #[str [], .int .u8 0, str []]) w := by kernel_rfl
theorem cb271 : Callable Tryz.prog 271 := callable_of Tryz.func271 (by kernel_rfl) (by kernel_rfl)
theorem fl281_0 : Fld Tryz.prog 281 0 0 := fun b o w => by kernel_rfl
theorem zr54 : Zr Tryz.prog 54 [str [], .int .u8 0, str []] := fun w => ⟨.agg #[str [], .int .u8 0, str []], by kernel_rfl, rfl⟩
theorem eq_Str (H : Hp) (a_a : Option Addr) (a_l a_c : Nat) (a : List Bs) (a_h : SlH strE 1 H (.slice a_a a_l a_c) a) (b_a : Option Addr) (b_l b_c : Nat) (b : List Bs) (b_h : SlH strE 1 H (.slice b_a b_l b_c) b) (hal : a.length ≤ 9223372036854775807) : Pr Tryz.prog 232 #[.slice a_a a_l a_c, .slice b_a b_l b_c] H (.bool (decide (a = b))) := by
  refine pr_cw Tryz.func232 rfl Tryz.ntmps232 rfl (fun N => ?_)
  refine cw_seq (cw_region (oab rfl rfl (ow_nil (seqK_n (cw_seq ?_)))))
  refine cw_seq (cw_region (ol rfl (lo_move (v := .slice _ _ _) rfl) (ol rfl (lo_len_slh rfl a_h Tryz.underlying245) (ol rfl (lo_move (v := .slice _ _ _) rfl) (ol rfl (lo_len_slh rfl b_h Tryz.underlying245) ?_)))))
  refine ol rfl (lo_neq rfl rfl) (ow_nil (seqK_n (cw_cond rfl (fun h1 => ?_) (fun h1 => ?_))))
  · have h2 := not_t h1
    have p3 := df h2
    refine cw_seq (cw_region (oab rfl rfl (ow_nil (seqK_n (cw_ret ?_)))))
    refine seqK_r (fnK_r (res1 rfl (rv_t (v := .bool _) rfl)) (.refl _) ?_)
    exact congrArg Value.bool (eqL_len (by assumption)).symm
  have h4 := not_f h1
  have p5 := dt h4
  refine cw_skip (seqK_n (cw_seq (cw_seq (cw_region (ol rfl (lo_move (v := .slice _ _ _) rfl) ?_)))))
  refine ol rfl (lo_len_slh rfl a_h Tryz.underlying245) (omi rfl rfl (ow_nil (seqK_n (cw_block (cw_loop1 [4, 5, 13, 14, 15, 16, 17, 18, 19, 20, 21, 22, 23, 24, 25] [] (fun (k : Nat) G => upd (G) 13 (.int .i64 (k : Int))) (fun (k : Nat) G => G) (fun (k : Nat) H' => k ≤ a.length ∧ decide (a = b) = decide (a.drop k = b.drop k)) (fun (k : Nat) => a.length - k) 0 (upd_intro (mask_intro (by first | exact off_refl | (repeat (first | exact off_mask | refine off_upd rfl ?_ | refine off_mask2 rfl ?_)))) rfl) (lmask_intro offl_refl) ?_ ?_)))))
  · exact ⟨Nat.zero_le _, rfl⟩
  intro k J7 JL7 H7 hp6 hl7
  obtain ⟨hk1, hk2⟩ := hp6
  refine cw_seq (cw_region (ol rfl (lo_lss rfl rfl) (ow_nil (seqK_n (cw_seq ?_)))))
  refine cw_cond rfl (fun h8 => ?_) (fun h8 => ?_)
  · have p9 := dt h8
    refine cw_skip (seqK_n (cw_seq (cw_block (cw_seq (cw_region ?_)))))
    refine omi rfl rfl (oai rfl rfl (ow_nil (seqK_n (cw_seq (cw_anyL mixd ?_)))))
    refine vw_q 0 rfl (by kernel_rfl) (by repeat (first | exact lle_l0 | exact LLe.refl _ | exact lle_none | refine lle_up ?_ rfl)) (fun _ _ hh hl => lo_move (v := .slice _ _ _) rfl) ?_
    refine vw_q 1 rfl (by kernel_rfl) (by repeat (first | exact lle_l0 | exact LLe.refl _ | exact lle_none | refine lle_up ?_ rfl)) (fun _ _ hh hl => lo_move (v := .int _ _) rfl) ?_
    obtain ⟨c10, hc11⟩ := getE (xs := a) (m := k) (by omega)
    obtain ⟨cs12, hE13, at14⟩ := (a_h.mono ((HLe.refl _).trans hl7) (fun _ _ h => h)).get hc11
    obtain ⟨rfl, c10_w⟩ := hE13
    have c10_w : c10.length ≤ 9223372036854775807 := c10_w
    refine vw_q 2 rfl (by kernel_rfl) (by repeat (first | exact lle_l0 | exact LLe.refl _ | exact lle_none | refine lle_up ?_ rfl)) (fun _ _ hh hl => lo_indexAddr rfl rfl (a_h.mono (((HLe.refl _).trans hl7).trans hh) (fun _ _ h => h)).1 (at14.mono hh) Tryz.underlying245 sz9 (by omega) (by omega)) ?_
    refine vw_q 3 rfl (by kernel_rfl) (by repeat (first | exact lle_l0 | exact LLe.refl _ | exact lle_none | refine lle_up ?_ rfl)) (fun _ _ hh hl => lo_loadE1 rfl ag9 (at14.mono hh)) ?_
    refine vw_q 4 rfl (by kernel_rfl) (by repeat (first | exact lle_l0 | exact LLe.refl _ | exact lle_none | refine lle_up ?_ rfl)) (fun _ _ hh hl => lo_move (v := .slice _ _ _) rfl) ?_
    refine vw_q 5 rfl (by kernel_rfl) (by repeat (first | exact lle_l0 | exact LLe.refl _ | exact lle_none | refine lle_up ?_ rfl)) (fun _ _ hh hl => lo_move (v := .int _ _) rfl) ?_
    obtain ⟨c15, hc16⟩ := getE (xs := b) (m := k) (by omega)
    obtain ⟨cs17, hE18, at19⟩ := (b_h.mono ((HLe.refl _).trans hl7) (fun _ _ h => h)).get hc16
    obtain ⟨rfl, c15_w⟩ := hE18
    have c15_w : c15.length ≤ 9223372036854775807 := c15_w
    refine vw_q 6 rfl (by kernel_rfl) (by repeat (first | exact lle_l0 | exact LLe.refl _ | exact lle_none | refine lle_up ?_ rfl)) (fun _ _ hh hl => lo_indexAddr rfl rfl (b_h.mono (((HLe.refl _).trans hl7).trans hh) (fun _ _ h => h)).1 (at19.mono hh) Tryz.underlying245 sz9 (by omega) (by omega)) ?_
    refine vw_q 7 rfl (by kernel_rfl) (by repeat (first | exact lle_l0 | exact LLe.refl _ | exact lle_none | refine lle_up ?_ rfl)) (fun _ _ hh hl => lo_loadE1 rfl ag9 (at19.mono hh)) ?_
    refine vw_q 8 rfl (by kernel_rfl) (by repeat (first | exact lle_l0 | exact LLe.refl _ | exact lle_none | refine lle_up ?_ rfl)) (fun _ _ hh hl => lo_sneq rfl rfl) ?_
    refine vw_done (by kernel_rfl) (seqK_n (cw_cond rfl (fun h20 => ?_) (fun h20 => ?_)))
    · have h21 := not_t h20
      have p22 := df h21
      refine cw_seq (cw_region (oab rfl rfl (ow_nil (seqK_n (cw_ret ?_)))))
      refine blkK_r (seqK_r (loopK_r (blkK_r (seqK_r (fnK_r (res1 rfl (rv_t (v := .bool _) rfl)) ((HLe.refl _).trans hl7) ?_)))))
      exact congrArg Value.bool (eqL_miss hk2 (dropE hc11) (dropE hc16) (by assumption)).symm
    have h23 := not_f h20
    have p24 := dt h23
    refine cw_skip (blkK_n (seqK_n (cw_region (ol rfl (lo_add rfl rfl (rg_i64 (by omega))) (omi rfl rfl ?_)))))
    refine ow_nil ?_
    refine next1 (k + 1) (upd_intro (mask_intro (by first | exact off_refl | (repeat (first | exact off_mask | refine off_upd rfl ?_ | refine off_mask2 rfl ?_)))) rfl) (lmask_intro (by first | exact offl_refl | (repeat (first | exact offl_mask | refine offl_upd rfl ?_ | refine offl_mask2 rfl ?_)))) hl7 ?_ ?_
    · exact ⟨by omega, eqL_step hk2 (dropE hc11) (dropE hc16) (by assumption)⟩
    omega
  have p25 := df h8
  refine cw_exit (seqK_e (loopK_e (blkK_hit (seqK_n (cw_seq ?_)))))
  refine cw_region (oab rfl rfl (ow_nil (seqK_n (cw_ret (fnK_r (res1 rfl (rv_t (v := .bool _) rfl)) ((HLe.refl _).trans hl7) ?_)))))
  exact congrArg Value.bool (eqL_end hk2 (by omega) (by omega)).symm
theorem index_Str (H : Hp) (l_a : Option Addr) (l_l l_c : Nat) (l : List Bs) (l_h : SlH strE 1 H (.slice l_a l_l l_c) l) (x : Bs) (hl : l.length ≤ 9223372036854775807) : Pr Tryz.prog 271 #[.slice l_a l_l l_c, str x] H (.int .i64 (idxP (fun y => decide (x = y)) l)) := by
  refine pr_cw Tryz.func271 rfl Tryz.ntmps271 rfl (fun N => ?_)
  refine cw_seq (cw_region (oai rfl rfl (ow_nil (seqK_n (cw_seq ?_)))))
  refine cw_seq (cw_region (ol rfl (lo_move (v := .slice _ _ _) rfl) (ol rfl (lo_len_slh rfl l_h Tryz.underlying245) (omi rfl rfl (ow_nil ?_)))))
  refine seqK_n (cw_block (cw_loop1 [4, 5, 8, 9, 10, 11, 12, 13, 14, 15, 16, 17, 18] [] (fun (k : Nat) G => upd (G) 8 (.int .i64 (k : Int))) (fun (k : Nat) G => G) (fun (k : Nat) H' => k ≤ l.length ∧ idxP (fun y => decide (x = y)) l = idxF (fun y => decide (x = y)) k (l.drop k)) (fun (k : Nat) => l.length - k) 0 (upd_intro (mask_intro (by first | exact off_refl | (repeat (first | exact off_mask | refine off_upd rfl ?_ | refine off_mask2 rfl ?_)))) rfl) (lmask_intro offl_refl) ?_ ?_))
  · exact ⟨Nat.zero_le _, rfl⟩
  intro k J2 JL2 H2 hp1 hl2
  obtain ⟨hik1, hik2⟩ := hp1
  refine cw_seq (cw_region (ol rfl (lo_lss rfl rfl) (ow_nil (seqK_n (cw_seq ?_)))))
  refine cw_cond rfl (fun h3 => ?_) (fun h3 => ?_)
  · have p4 := dt h3
    refine cw_skip (seqK_n (cw_seq (cw_block (cw_seq (cw_region ?_)))))
    refine omi rfl rfl (oai rfl rfl (ow_nil (seqK_n (cw_seq (cw_region ?_)))))
    refine ol rfl (lo_move (v := str _) rfl) (ol rfl (lo_move (v := .slice _ _ _) rfl) (omi rfl rfl ?_))
    obtain ⟨c5, hc6⟩ := getE (xs := l) (m := k) (by omega)
    obtain ⟨cs7, hE8, at9⟩ := (l_h.mono ((HLe.refl _).trans hl2) (fun _ _ h => h)).get hc6
    obtain ⟨rfl, c5_w⟩ := hE8
    have c5_w : c5.length ≤ 9223372036854775807 := c5_w
    refine ol rfl (lo_indexAddr rfl rfl (l_h.mono ((HLe.refl _).trans hl2) (fun _ _ h => h)).1 at9 Tryz.underlying245 sz9 (by omega) (by omega)) (ol rfl (lo_loadE1 rfl ag9 at9) (ol rfl (lo_seql rfl rfl) (ow_nil (seqK_n (cw_cond rfl (fun h10 => ?_) (fun h10 => ?_))))))
    · have p11 := dt h10
      refine cw_seq (cw_region (omi rfl rfl (oai rfl rfl (ow_nil (seqK_n ?_)))))
      refine cw_ret (blkK_r (seqK_r (loopK_r (blkK_r (seqK_r ?_)))))
      refine fnK_r (res1 rfl (rv_t (v := .int _ _) rfl)) ((HLe.refl _).trans hl2) ?_
      exact congrArg (Value.int .i64) (idx_hit hik2 (dropE hc6) (by first | assumption | (simp [*]; done))).symm
    have p12 := df h10
    refine cw_skip (blkK_n (seqK_n (cw_region (ol rfl (lo_add rfl rfl (rg_i64 (by omega))) (omi rfl rfl ?_)))))
    refine ow_nil ?_
    refine next1 (k + 1) (upd_intro (mask_intro (by first | exact off_refl | (repeat (first | exact off_mask | refine off_upd rfl ?_ | refine off_mask2 rfl ?_)))) rfl) (lmask_intro (by first | exact offl_refl | (repeat (first | exact offl_mask | refine offl_upd rfl ?_ | refine offl_mask2 rfl ?_)))) hl2 ?_ ?_
    · exact ⟨by omega, idx_miss hik2 (dropE hc6) (by assumption)⟩
    omega
  have p13 := df h3
  refine cw_exit (seqK_e (loopK_e (blkK_hit (seqK_n (cw_seq ?_)))))
  refine cw_region (oai rfl rfl (ow_nil (seqK_n (cw_ret (fnK_r (res1 rfl (rv_t (v := .int _ _) rfl)) ((HLe.refl _).trans hl2) ?_)))))
  exact congrArg (Value.int .i64) (idx_end hik2 (by omega)).symm
theorem contains_Str (H : Hp) (l_a : Option Addr) (l_l l_c : Nat) (l : List Bs) (l_h : SlH strE 1 H (.slice l_a l_l l_c) l) (x : Bs) (hl : l.length ≤ 9223372036854775807) : Pr Tryz.prog 264 #[.slice l_a l_l l_c, str x] H (.bool (decide (x ∈ l))) := by
  refine pr_cw Tryz.func264 rfl Tryz.ntmps264 rfl (fun N => ?_)
  refine cw_seq (cw_region (oab rfl rfl (ow_nil (seqK_n (cw_seq ?_)))))
  refine cw_region (ol rfl (lo_move (v := .slice _ _ _) rfl) (ol rfl (lo_move (v := str _) rfl) ?_))
  refine ow1 (op1_pr (index_Str _ l_a l_l l_c l l_h x (by first | omega | (simp <;> omega))) (en_f cb271 rfl) rfl ?_)
  have := idxP_r (fun y => decide (x = y)) l
  refine ol rfl (lo_geq rfl rfl) (oab rfl rfl (ow_nil (seqK_n (cw_ret (fnK_r (res1 rfl (rv_t (v := .bool _) rfl)) (.refl _) ?_)))))
  refine congrArg Value.bool ?_
  rw [Bool.eq_iff_iff, decide_eq_true_eq, decide_eq_true_eq, idxP_any]
  simp
theorem shop_check (H : Hp) (x : ShopR) (x_w : ShopR.wf x) : Pr Tryz.prog 245 #[.agg (ShopR.cells x).toArray] H (.int .i64 (shopE x)) := by
  refine pr_cw Tryz.func245 rfl Tryz.ntmps245 rfl (fun N => ?_)
  have x_w' := x_w
  simp only [ShopR.wf] at x_w'
  refine cw_seq (cw_region (ow1 (op1_box (cs := [_, _, _]) 0 rfl rfl (fun b1 => ?_))))
  refine oai rfl rfl (ow_nil (seqK_n (cw_seq (cw_seq (cw_region ?_)))))
  refine ol rfl (lo_fieldAddr rfl fl54_0) (ol rfl (lo_load1 (i := 0) (v := str _) rfl ag9 rfl rfl) ?_)
  refine ow1 (op1_pr (words_Name _ x.name (by first | omega | decide | (simp; done))) (en_f cb116 rfl) rfl ?_)
  refine oai rfl rfl (ow_nil (seqK_n (cw_seq (cw_region (omi rfl rfl ?_)))))
  refine ol rfl (lo_neq rfl rfl) (ow_nil (seqK_n (cw_cond rfl (fun h2 => ?_) (fun h2 => ?_))))
  · have h3 := not_t h2
    have p4 := df h3
    refine cw_seq (cw_region (omi rfl rfl (oai rfl rfl (ow_nil (seqK_n ?_)))))
    refine cw_ret (seqK_r (fnK_r (res1 rfl (rv_t (v := .int _ _) rfl)) (.refl _) (congrArg (Value.int .i64) ?_)))
    unfold shopE
    (repeat (first | rw [if_pos (by omega)] | rw [if_pos (by assumption)] | rw [if_pos (And.intro (by assumption) (by assumption))] | rw [if_pos (Or.inl (by assumption))] | rw [if_pos (Or.inr (by assumption))] | rw [if_neg (by omega)] | rw [if_neg (by assumption)] | rw [if_neg (not_not_intro (by assumption))] | rw [if_neg (nbt (by assumption))] | rw [if_neg (nbf (by assumption))] | rw [if_neg (nand_l (by assumption))] | rw [if_neg (nand_r (by assumption))] | rw [if_neg (nand_l (nbt (by assumption)))] | rw [if_neg (nand_r (nbt (by assumption)))] | rw [if_neg (nor_ (not_not_intro (by assumption)) (nbf (by assumption)))]))
    all_goals first | done | rfl | omega
  have h5 := not_f h2
  have p6 := dt h5
  refine cw_skip (seqK_n (cw_seq (cw_block (cw_seq (cw_region ?_)))))
  refine ol rfl (lo_fieldAddr rfl fl54_1) (ol rfl (lo_load1 (i := 0) (v := .int _ _) rfl ag5 rfl rfl) (ol rfl (lo_gtr rfl rfl) (oab rfl rfl (ow_nil (seqK_n ?_)))))
  refine cw_cond rfl (fun h7 => ?_) (fun h7 => ?_)
  · have p8 := dt h7
    refine cw_seq (cw_region (oai rfl rfl (ow_nil (seqK_n (cw_ret ?_)))))
    refine blkK_r (seqK_r (fnK_r (res1 rfl (rv_t (v := .int _ _) rfl)) (.refl _) (congrArg (Value.int .i64) ?_)))
    unfold shopE
    (repeat (first | rw [if_pos (by omega)] | rw [if_pos (by assumption)] | rw [if_pos (And.intro (by assumption) (by assumption))] | rw [if_pos (Or.inl (by assumption))] | rw [if_pos (Or.inr (by assumption))] | rw [if_neg (by omega)] | rw [if_neg (by assumption)] | rw [if_neg (not_not_intro (by assumption))] | rw [if_neg (nbt (by assumption))] | rw [if_neg (nbf (by assumption))] | rw [if_neg (nand_l (by assumption))] | rw [if_neg (nand_r (by assumption))] | rw [if_neg (nand_l (nbt (by assumption)))] | rw [if_neg (nand_r (nbt (by assumption)))] | rw [if_neg (nor_ (not_not_intro (by assumption)) (nbf (by assumption)))]))
    all_goals first | done | rfl | omega
  have p9 := df h7
  refine cw_seq (cw_region (ol rfl (lo_fieldAddr rfl fl54_1) (ol rfl (lo_load1 (i := 0) (v := .int _ _) rfl ag5 rfl rfl) (ol rfl (lo_eql rfl rfl) (oab rfl rfl ?_)))))
  refine ow_nil (seqK_n (cw_cond rfl (fun h10 => ?_) (fun h10 => ?_)))
  · have p11 := dt h10
    refine cw_seq (cw_region (ol rfl (lo_fieldAddr rfl fl54_2) (ol rfl (lo_load1 (i := 0) (v := str _) rfl ag9 rfl rfl) ?_)))
    refine ow1 (op1_pr (words_Name _ x.to (by first | omega | decide | (simp; done))) (en_f cb116 rfl) rfl ?_)
    refine oai rfl rfl (ow_nil (seqK_n (cw_ret (blkK_r (seqK_r ?_)))))
    refine fnK_r (res1 rfl (rv_t (v := .int _ _) rfl)) (.refl _) (congrArg (Value.int .i64) ?_)
    unfold shopE
    (repeat (first | rw [if_pos (by omega)] | rw [if_pos (by assumption)] | rw [if_pos (And.intro (by assumption) (by assumption))] | rw [if_pos (Or.inl (by assumption))] | rw [if_pos (Or.inr (by assumption))] | rw [if_neg (by omega)] | rw [if_neg (by assumption)] | rw [if_neg (not_not_intro (by assumption))] | rw [if_neg (nbt (by assumption))] | rw [if_neg (nbf (by assumption))] | rw [if_neg (nand_l (by assumption))] | rw [if_neg (nand_r (by assumption))] | rw [if_neg (nand_l (nbt (by assumption)))] | rw [if_neg (nand_r (nbt (by assumption)))] | rw [if_neg (nor_ (not_not_intro (by assumption)) (nbf (by assumption)))]))
    all_goals first | done | rfl | omega
  have p12 := df h10
  refine cw_seq (cw_region (ol rfl (lo_fieldAddr rfl fl54_2) (ol rfl (lo_load1 (i := 0) (v := str _) rfl ag9 rfl rfl) (ol rfl (lo_sneq rfl rfl) (oab rfl rfl ?_)))))
  refine ow_nil (seqK_n (cw_cond rfl (fun h13 => ?_) (fun h13 => ?_)))
  · have h14 := not_t h13
    have p15 := df h14
    refine cw_seq (cw_region (oai rfl rfl (ow_nil (seqK_n (cw_ret ?_)))))
    refine blkK_r (seqK_r (fnK_r (res1 rfl (rv_t (v := .int _ _) rfl)) (.refl _) (congrArg (Value.int .i64) ?_)))
    unfold shopE
    (repeat (first | rw [if_pos (by omega)] | rw [if_pos (by assumption)] | rw [if_pos (And.intro (by assumption) (by assumption))] | rw [if_pos (Or.inl (by assumption))] | rw [if_pos (Or.inr (by assumption))] | rw [if_neg (by omega)] | rw [if_neg (by assumption)] | rw [if_neg (not_not_intro (by assumption))] | rw [if_neg (nbt (by assumption))] | rw [if_neg (nbf (by assumption))] | rw [if_neg (nand_l (by assumption))] | rw [if_neg (nand_r (by assumption))] | rw [if_neg (nand_l (nbt (by assumption)))] | rw [if_neg (nand_r (nbt (by assumption)))] | rw [if_neg (nor_ (not_not_intro (by assumption)) (nbf (by assumption)))]))
    all_goals first | done | rfl | omega
  have h16 := not_f h13
  have p17 := dt h16
  refine cw_skip (blkK_n (seqK_n (cw_seq (cw_region (oai rfl rfl ?_)))))
  refine ow_nil (seqK_n (cw_ret (fnK_r (res1 rfl (rv_t (v := .int _ _) rfl)) (.refl _) (congrArg (Value.int .i64) ?_))))
  unfold shopE
  (repeat (first | rw [if_pos (by omega)] | rw [if_pos (by assumption)] | rw [if_pos (And.intro (by assumption) (by assumption))] | rw [if_pos (Or.inl (by assumption))] | rw [if_pos (Or.inr (by assumption))] | rw [if_neg (by omega)] | rw [if_neg (by assumption)] | rw [if_neg (not_not_intro (by assumption))] | rw [if_neg (nbt (by assumption))] | rw [if_neg (nbf (by assumption))] | rw [if_neg (nand_l (by assumption))] | rw [if_neg (nand_r (by assumption))] | rw [if_neg (nand_l (nbt (by assumption)))] | rw [if_neg (nand_r (nbt (by assumption)))] | rw [if_neg (nor_ (not_not_intro (by assumption)) (nbf (by assumption)))]))
  all_goals first | done | rfl | omega
theorem book_Shop (H : Hp) (b : BookR) (b_shops_a : Option Addr) (b_shops_c : Nat) (b_shops_h : SlH shopRE 3 H (.slice b_shops_a b.shops.length b_shops_c) b.shops) (b_binds_a : Option Addr) (b_binds_c : Nat) (b_binds_h : SlH bindRE 6 H (.slice b_binds_a b.binds.length b_binds_c) b.binds) (b_w : BookR.wf b) (name : Bs) : Pr Tryz.prog 246 #[.agg (BookR.cells b b_shops_a b_shops_c b_binds_a b_binds_c).toArray, str name] H (.tuple #[.agg (ShopR.cells ((shopOf b.shops name).getD ShopR.zero)).toArray, .bool ((shopOf b.shops name).isSome)]) := by
  refine pr_cw Tryz.func246 rfl Tryz.ntmps246 rfl (fun N => ?_)
  have b_w' := b_w
  simp only [BookR.wf] at b_w'
  refine cw_seq (cw_region (ow1 (op1_box (cs := [_, _]) 0 rfl rfl (fun b1 => ?_))))
  refine ow1 (op1_alloc 1 rfl zr54 (fun b2 => ?_))
  refine oab rfl rfl (ow_nil (seqK_n (cw_seq (cw_seq (cw_region ?_)))))
  refine ol rfl (lo_fieldAddr rfl fl281_0) (ol rfl (lo_load1 (i := 0) (v := .slice _ _ _) rfl ag278 rfl rfl) (ol rfl (lo_len_slh rfl b_shops_h Tryz.underlying278) (omi rfl rfl (ow_nil (seqK_n ?_)))))
  refine cw_block (cw_loop1 [5, 7, 11, 12, 13, 14, 15, 16, 17, 18, 19, 20] [2] (fun (k : Nat) G => upd (G) 11 (.int .i64 (k : Int))) (fun (k : Nat) G => G) (fun (k : Nat) H' => k ≤ b.shops.length ∧ shopOf b.shops name = shopOf (b.shops.drop k) name) (fun (k : Nat) => b.shops.length - k) 0 (upd_intro (mask_intro (by first | exact off_refl | (repeat (first | exact off_mask | refine off_upd rfl ?_ | refine off_mask2 rfl ?_)))) rfl) (lmask_intro offl_refl) ?_ ?_)
  · exact ⟨Nat.zero_le _, rfl⟩
  intro k J4 JL4 H4 hp3 hl4
  obtain ⟨hk1, hk2⟩ := hp3
  refine cw_seq (cw_region (ol rfl (lo_lss rfl rfl) (ow_nil (seqK_n (cw_seq ?_)))))
  refine cw_cond rfl (fun h5 => ?_) (fun h5 => ?_)
  · have p6 := dt h5
    refine cw_skip (seqK_n (cw_seq (cw_block (cw_seq (cw_region ?_)))))
    obtain ⟨c7, hc8⟩ := getE (xs := b.shops) (m := k) (by omega)
    obtain ⟨cs9, hE10, at11⟩ := (b_shops_h.mono ((HLe.refl _).trans hl4) (fun _ _ h => h)).get hc8
    obtain ⟨rfl, c7_w⟩ := hE10
    have c7_w' := c7_w
    simp only [ShopR.wf] at c7_w'
    refine ol rfl (lo_indexAddr rfl rfl (b_shops_h.mono ((HLe.refl _).trans hl4) (fun _ _ h => h)).1 at11 Tryz.underlying278 sz54 (by omega) (by omega)) (ol rfl (lo_loadEA rfl ag54 sz54 at11) (ow1 (op1_alloc 2 rfl zr54 (fun b12 => ?_))))
    refine ow1 (op1_storeAll (i := 2) (vs := [_, _, _]) rfl rfl rfl sz54 rfl rfl rfl ?_)
    refine ow_nil (seqK_n (cw_seq (cw_region (ol rfl (lo_fieldAddr rfl fl54_0) (ol rfl (lo_load1 (i := 2) (v := str _) rfl ag9 rfl rfl) ?_)))))
    refine ol rfl (lo_move (v := str _) rfl) (ol rfl (lo_seql rfl rfl) (ow_nil (seqK_n (cw_cond rfl (fun h13 => ?_) (fun h13 => ?_)))))
    · have p14 := dt h13
      refine cw_seq (cw_region (ol rfl (lo_loadA (i := 2) (vs := [_, _, _]) rfl ag54 sz54 rfl rfl rfl) ?_))
      refine ow1 (op1_storeAll (i := 1) (vs := [_, _, _]) rfl rfl rfl sz54 rfl rfl rfl ?_)
      refine oab rfl rfl (ow_nil (seqK_n (cw_ret (blkK_r (seqK_r ?_)))))
      refine loopK_r (blkK_r (seqK_r (fnK_r (res2 rfl (rv_c (i := 1) (vs := [_, _, _]) rfl ag54 sz54 rfl rfl rfl) (rv_t (v := .bool _) rfl)) ((HLe.refl _).trans hl4) ?_)))
      have e := shopOf_hit hk2 (dropE hc8) (by assumption)
      rw [e]
      rfl
    have p15 := df h13
    refine cw_skip (blkK_n (seqK_n (cw_region (ol rfl (lo_add rfl rfl (rg_i64 (by omega))) (omi rfl rfl ?_)))))
    refine ow_nil ?_
    refine next1 (k + 1) (upd_intro (mask_intro (by first | exact off_refl | (repeat (first | exact off_mask | refine off_upd rfl ?_ | refine off_mask2 rfl ?_)))) rfl) (lmask_intro (by first | exact offl_refl | (repeat (first | exact offl_mask | refine offl_upd rfl ?_ | refine offl_mask2 rfl ?_)))) hl4 ?_ ?_
    · exact ⟨by omega, shopOf_miss hk2 (dropE hc8) (by assumption)⟩
    omega
  have p16 := df h5
  refine cw_exit (seqK_e (loopK_e (blkK_hit (seqK_n (cw_seq ?_)))))
  refine cw_region (ol rfl (lo_build (v := .agg #[_, _, _]) rfl (bd54)) ?_)
  refine ow1 (op1_storeAll (i := 1) (vs := [_, _, _]) rfl rfl rfl sz54 rfl rfl rfl ?_)
  refine oab rfl rfl (ow_nil (seqK_n (cw_ret (fnK_r (res2 rfl (rv_c (i := 1) (vs := [_, _, _]) rfl ag54 sz54 rfl rfl rfl) (rv_t (v := .bool _) rfl)) ((HLe.refl _).trans hl4) ?_))))
  rw [List.drop_of_length_le (by omega)] at hk2
  rw [hk2]
  rfl
end Go.SW
set_option linter.unusedVariables false
set_option maxRecDepth 100000
set_option maxHeartbeats 4000000
namespace Go.SW
open Go.Proofs
theorem ag279 : Ag Tryz.prog 279 false := fun w => by kernel_rfl
theorem by54 : By Tryz.prog 54 40 := by_of (by kernel_rfl)
theorem by58 : By Tryz.prog 58 88 := by_of (by kernel_rfl)
theorem cb260 : Callable Tryz.prog 260 := callable_of Tryz.func260 (by kernel_rfl) (by kernel_rfl)
theorem cb263 : Callable Tryz.prog 263 := callable_of Tryz.func263 (by kernel_rfl) (by kernel_rfl)
theorem sz278 : Sz Tryz.prog 278 1 := fun w => by kernel_rfl
theorem sz279 : Sz Tryz.prog 279 1 := fun w => by kernel_rfl
theorem concat_Shop (H : Hp) (ls_a : Option Addr) (ls_l ls_c : Nat) (ls : List (List ShopR)) (ls_h : SlH (slE shopRE 3) 1 H (.slice ls_a ls_l ls_c) ls) (hls : ls.length ≤ 1000) (hlt : ls.flatten.length ≤ 1000000) : Ph Tryz.prog 247 #[.slice ls_a ls_l ls_c] H (fun v H' => ∃ (a1 : Option Addr) (c1 : Nat), v = .slice a1 ((ls).flatten).length c1 ∧ SlH shopRE 3 H' (.slice a1 ((ls).flatten).length c1) ((ls).flatten)) := by
  refine ph_cw Tryz.func247 rfl Tryz.ntmps247 rfl (fun N => ?_)
  refine cw_seq (cw_region (ol rfl (lo_assign (v := .slice _ _ _) rfl) (ow_nil (seqK_n (cw_seq ?_)))))
  refine cw_region (oai rfl rfl (ow_nil (seqK_n (cw_seq (cw_seq ?_)))))
  refine cw_region (ol rfl (lo_move (v := .slice _ _ _) rfl) (ol rfl (lo_len_slh rfl ls_h Tryz.underlying312) (omi rfl rfl (ow_nil (seqK_n ?_)))))
  refine cw_block (cw_loop2 [3, 5, 11, 12, 13, 14, 15, 16, 17, 18, 19, 20, 21, 22] [] (fun (k : Nat) (z : Nat) G => upd (upd (G) 11 (.int .i64 (k : Int))) 3 (.int .i64 (z : Int))) (fun (k : Nat) (z : Nat) G => G) (fun (k : Nat) (z : Nat) H' => k ≤ ls.length ∧ z + (ls.drop k).flatten.length = ls.flatten.length) (fun (k : Nat) (z : Nat) => ls.length - k) 0 0 (upd_intro (upd_intro (mask_intro (by first | exact off_refl | (repeat (first | exact off_mask | refine off_upd rfl ?_ | refine off_mask2 rfl ?_)))) rfl) rfl) (lmask_intro offl_refl) ?_ ?_)
  · exact ⟨Nat.zero_le _, by simp⟩
  intro k z J2 JL2 H2 hp1 hl2
  obtain ⟨hk1, hk2⟩ := hp1
  refine cw_seq (cw_region (ol rfl (lo_lss rfl rfl) (ow_nil (seqK_n (cw_seq ?_)))))
  refine cw_cond rfl (fun h3 => ?_) (fun h3 => ?_)
  · have p4 := dt h3
    refine cw_skip (seqK_n (cw_seq (cw_block (cw_seq (cw_region ?_)))))
    obtain ⟨c5, hc6⟩ := getE (xs := ls) (m := k) (by omega)
    obtain ⟨cs7, hE8, at9⟩ := (ls_h.mono ((HLe.refl _).trans hl2) (fun _ _ q => (slE_mono shopRE_mono) _ _ _ _ ((HLe.refl _).trans hl2) q)).get hc6
    obtain ⟨a10, c11, rfl, hs12⟩ := hE8
    have hdl : (ls.drop k).flatten.length = c5.length + (ls.drop (k + 1)).flatten.length := by rw [dropE hc6, List.flatten_cons, List.length_append]
    refine ol rfl (lo_indexAddr rfl rfl (ls_h.mono ((HLe.refl _).trans hl2) (fun _ _ q => (slE_mono shopRE_mono) _ _ _ _ ((HLe.refl _).trans hl2) q)).1 at9 Tryz.underlying312 sz278 (by omega) (by omega)) (ol rfl (lo_loadE1 rfl ag278 at9) (ol rfl (lo_assign (v := .slice _ _ _) rfl) (ow_nil (seqK_n (cw_seq ?_)))))
    refine cw_region (omi rfl rfl (ol rfl (lo_move (v := .slice _ _ _) rfl) (ol rfl (lo_len_slh rfl hs12 Tryz.underlying278) (ol rfl (lo_add rfl rfl (rg_i64 (by omega))) (oai rfl rfl ?_)))))
    refine ow_nil (seqK_n (cw_seq (cw_region (omi rfl rfl (ol rfl (lo_lss rfl rfl) ?_)))))
    refine ow_nil (seqK_n (cw_cond rfl (fun h13 => ?_) (fun h13 => ?_)))
    · have p14 := dt h13
      exfalso; omega
    have p15 := df h13
    refine cw_skip (blkK_n (seqK_n (cw_region (ol rfl (lo_add rfl rfl (rg_i64 (by omega))) (omi rfl rfl ?_)))))
    refine ow_nil ?_
    refine next2 (k + 1) (z + c5.length) (upd_intro (upd_intro (mask_intro (by first | exact off_refl | (repeat (first | exact off_mask | refine off_upd rfl ?_ | refine off_mask2 rfl ?_)))) rfl) (congrArg (Value.int .i64) (by omega))) (lmask_intro (by first | exact offl_refl | (repeat (first | exact offl_mask | refine offl_upd rfl ?_ | refine offl_mask2 rfl ?_)))) hl2 ?_ ?_
    · exact ⟨by omega, by omega⟩
    omega
  have p16 := df h3
  refine cw_exit (seqK_e (loopK_e (blkK_hit (seqK_n (cw_seq ?_)))))
  refine cw_region (omi rfl rfl ?_)
  refine ow1 (op1_in (en_f cb260 rfl) Tryz.func260 rfl Tryz.ntmps260 rfl rfl ?_)
  refine cw_seq (cw_region (ol rfl (lo_assign (v := .slice _ _ _) rfl) (ow_nil (seqK_n (cw_seq ?_)))))
  refine cw_seq (cw_region (omi rfl rfl (ol rfl (lo_lss rfl rfl) (ow_nil (seqK_n ?_)))))
  refine cw_cond rfl (fun h17 => ?_) (fun h17 => ?_)
  · have p18 := dt h17
    exfalso; omega
  have p19 := df h17
  refine cw_skip (seqK_n (cw_seq (cw_seq (cw_region (omi rfl rfl ?_)))))
  refine ol rfl (lo_move (v := .slice _ _ _) rfl) (ol rfl (lo_cap_sl rfl Tryz.underlying278) (ol rfl (lo_move (v := .slice _ _ _) rfl) (ol rfl (lo_len_sl rfl Tryz.underlying278) (ol rfl (lo_sub rfl rfl (rg_i64 (by omega))) (ol rfl (lo_sub rfl rfl (rg_i64 (by omega))) ?_)))))
  refine oai rfl rfl (ow_nil (seqK_n (cw_seq (cw_region (omi rfl rfl ?_)))))
  refine ol rfl (lo_gtr rfl rfl) (ow_nil (seqK_n (cw_cond rfl (fun h20 => ?_) (fun h20 => ?_))))
  · have p21 := dt h20
    refine cw_region (ol rfl (lo_move (v := .slice _ _ _) rfl) (ol rfl (lo_move (v := .slice _ _ _) rfl) (ol rfl (lo_cap_sl rfl Tryz.underlying278) (ol rfl (lo_slice_hi (a := none) (c := 0) 0 rfl rfl Tryz.underlying278 sz54 rfl (by decide)) (omi rfl rfl ?_)))))
    refine ow1 (op1_appz (m := (((z : Int) - (0 - 0))).toNat) 0 rfl rfl Tryz.underlying278 Tryz.underlying3 sz54 by54 (by decide) zr54 rfl (List.all_eq_true.1 rfl) (by omega) (by omega) (by omega) rfl (fun v22 en23 cs24 ho25 => ?_))
    refine ol rfl (lo_move (v := .slice _ _ _) rfl) (ol rfl (lo_len_sl rfl Tryz.underlying278) ?_)
    obtain ⟨a26, c27, rfl, ho28⟩ := ownV_cut ho25
    refine ol rfl (lo_slice_cut (a := a26) (c := c27) rfl rfl Tryz.underlying278 sz54 rfl) (ol rfl (lo_assign rfl) (ow_nil (seqK_n (cw_seq (cw_region ?_)))))
    refine ol rfl (lo_move rfl) (ol rfl (lo_assign rfl) (ow_nil (seqK_n (cw_ret (fnK_r (res1 rfl (rv_t rfl)) (.refl _) ?_)))))
    refine ol rfl (lo_assign rfl) (ow_nil (seqK_n (cw_seq (cw_seq (cw_region ?_)))))
    refine ol rfl (lo_move (v := .slice _ _ _) rfl) (ol rfl (lo_len_slh rfl (ls_h.mono ((HLe.refl _).trans hl2) (fun _ _ q => (slE_mono shopRE_mono) _ _ _ _ ((HLe.refl _).trans hl2) q)) Tryz.underlying312) (omi rfl rfl (ow_nil (seqK_n (cw_block ?_)))))
    refine cw_loop4 [6, 8, 27, 28, 29, 30, 31, 32, 33, 34] [0] (fun (k : Nat) (out : List ShopR) (v : Value) (en : Option (Nat × Obj)) G => upd (upd (G) 27 (.int .i64 (k : Int))) 6 (v)) (fun (k : Nat) (out : List ShopR) (v : Value) (en : Option (Nat × Obj)) G => lupd (G) 0 (en)) (fun (k : Nat) (out : List ShopR) (v : Value) (en : Option (Nat × Obj)) H' => k ≤ ls.length ∧ ls.flatten = out ++ (ls.drop k).flatten ∧ OwnV 3 54 v en out.length (out.flatMap ShopR.cells) ∧ (∀ x ∈ out, ShopR.wf x)) (fun (k : Nat) (out : List ShopR) (v : Value) (en : Option (Nat × Obj)) => ls.length - k) 0 [] (.slice a26 0 c27) en23 (upd_intro (upd_intro (mask_intro (by first | exact off_refl | (repeat (first | exact off_mask | refine off_upd rfl ?_ | refine off_mask2 rfl ?_)))) rfl) rfl) (lupd_intro (lmask_intro offl_refl) rfl) ?_ ?_
    · exact ⟨Nat.zero_le _, rfl, ho28, wf_nil⟩
    intro k out v en J30 JL30 H30 hp29 hl30
    obtain ⟨hk1, hk2, ho, hw⟩ := hp29
    have hfl : ls.flatten.length = out.length + (ls.drop k).flatten.length := by rw [hk2, List.length_append]
    refine cw_seq (cw_region (ol rfl (lo_lss rfl rfl) (ow_nil (seqK_n (cw_seq ?_)))))
    refine cw_cond rfl (fun h31 => ?_) (fun h31 => ?_)
    · have p32 := dt h31
      refine cw_skip (seqK_n (cw_seq (cw_block (cw_seq (cw_region ?_)))))
      obtain ⟨c33, hc34⟩ := getE (xs := ls) (m := k) (by omega)
      obtain ⟨cs35, hE36, at37⟩ := (ls_h.mono (((HLe.refl _).trans hl2).trans hl30) (fun _ _ q => (slE_mono shopRE_mono) _ _ _ _ (((HLe.refl _).trans hl2).trans hl30) q)).get hc34
      obtain ⟨a38, c39, rfl, hs40⟩ := hE36
      have hdl : (ls.drop k).flatten.length = c33.length + (ls.drop (k + 1)).flatten.length := by rw [dropE hc34, List.flatten_cons, List.length_append]
      refine ol rfl (lo_indexAddr rfl rfl (ls_h.mono (((HLe.refl _).trans hl2).trans hl30) (fun _ _ q => (slE_mono shopRE_mono) _ _ _ _ (((HLe.refl _).trans hl2).trans hl30) q)).1 at37 Tryz.underlying312 sz278 (by omega) (by omega)) (ol rfl (lo_loadE1 rfl ag278 at37) (ol rfl (lo_assign (v := .slice _ _ _) rfl) (ow_nil (seqK_n (cw_region ?_)))))
      refine ol rfl (lo_move rfl) (ol rfl (lo_move (v := .slice _ _ _) rfl) (ow1 (op1_app 0 rfl rfl Tryz.underlying278 Tryz.underlying278 rfl sz54 by54 (by decide) zr54 ho (src_slh (enc := ShopR.cells) (wf := ShopR.wf) (fun _ => rfl) hs40) (one_flat (fun _ => rfl) _) rfl (by omega) rfl (fun v41 en42 ho43 => ?_))))
      have ho44 := own_cat (enc := ShopR.cells) out c33 ho43
      refine ol rfl (lo_assign rfl) (ow_nil (blkK_n (seqK_n (cw_region (ol rfl (lo_add rfl rfl (rg_i64 (by omega))) ?_)))))
      refine omi rfl rfl (ow_nil ?_)
      refine next4 (k + 1) (out ++ c33) v41 en42 (upd_intro (upd_intro (mask_intro (by first | exact off_refl | (repeat (first | exact off_mask | refine off_upd rfl ?_ | refine off_mask2 rfl ?_)))) rfl) rfl) (lupd_intro (lmask_intro (by first | exact offl_refl | (repeat (first | exact offl_mask | refine offl_upd rfl ?_ | refine offl_mask2 rfl ?_)))) rfl) hl30 ?_ ?_
      · refine ⟨by omega, ?_, ho44, (wf_cat hw (slh_wf hs40))⟩
        rw [hk2, dropE hc34, List.flatten_cons]; simp
      omega
    have p45 := df h31
    refine cw_exit (seqK_e (loopK_e (blkK_hit (seqK_n (cw_seq ?_)))))
    refine cw_region (ol rfl (lo_move rfl) (ol rfl (lo_assign rfl) (ow_nil (seqK_n (cw_giveO 0 rfl (fun _ hl46 hg47 => ?_))))))
    have hs48 := slh_own (enc := ShopR.cells) (wf := ShopR.wf) (fun _ => rfl) ho hw hg47
    obtain ⟨⟨a49, c50, rfl, -⟩, -⟩ := id hs48
    refine cw_ret (fnK_r (res1 rfl (rv_t (v := .slice _ _ _) rfl)) ((((HLe.refl _).trans hl2).trans hl30).trans hl46) ?_)
    have e : ls.flatten = out := by rw [hk2, List.drop_of_length_le (by omega)]; simp
    rw [e]
    exact ⟨_, _, rfl, hs48⟩
  have p51 := df h20
  refine cw_skip (seqK_n (cw_seq (cw_region (ol rfl (lo_move (v := .slice _ _ _) rfl) (ol rfl (lo_assign (v := .slice _ _ _) rfl) ?_)))))
  refine ow_nil (seqK_n (cw_ret (fnK_r (res1 rfl (rv_t (v := .slice _ _ _) rfl)) (.refl _) (ol rfl (lo_assign (v := .slice _ _ _) rfl) (ow_nil ?_)))))
  refine seqK_n (cw_seq (cw_seq (cw_region (ol rfl (lo_move (v := .slice _ _ _) rfl) (ol rfl (lo_len_slh rfl (ls_h.mono ((HLe.refl _).trans hl2) (fun _ _ q => (slE_mono shopRE_mono) _ _ _ _ ((HLe.refl _).trans hl2) q)) Tryz.underlying312) ?_)))))
  refine omi rfl rfl (ow_nil (seqK_n (cw_block (cw_loop4 [6, 8, 27, 28, 29, 30, 31, 32, 33, 34] [0] (fun (k : Nat) (out : List ShopR) (v : Value) (en : Option (Nat × Obj)) G => upd (upd (G) 27 (.int .i64 (k : Int))) 6 (v)) (fun (k : Nat) (out : List ShopR) (v : Value) (en : Option (Nat × Obj)) G => lupd (G) 0 (en)) (fun (k : Nat) (out : List ShopR) (v : Value) (en : Option (Nat × Obj)) H' => k ≤ ls.length ∧ ls.flatten = out ++ (ls.drop k).flatten ∧ OwnV 3 54 v en out.length (out.flatMap ShopR.cells) ∧ (∀ x ∈ out, ShopR.wf x)) (fun (k : Nat) (out : List ShopR) (v : Value) (en : Option (Nat × Obj)) => ls.length - k) 0 [] (.slice none 0 0) none (upd_intro (upd_intro (mask_intro (by first | exact off_refl | (repeat (first | exact off_mask | refine off_upd rfl ?_ | refine off_mask2 rfl ?_)))) rfl) rfl) (lupd_intro (lmask_intro offl_refl) rfl) ?_ ?_))))
  · exact ⟨Nat.zero_le _, rfl, ownV_nil, wf_nil⟩
  intro k out v en J53 JL53 H53 hp52 hl53
  obtain ⟨hk1, hk2, ho, hw⟩ := hp52
  have hfl : ls.flatten.length = out.length + (ls.drop k).flatten.length := by rw [hk2, List.length_append]
  refine cw_seq (cw_region (ol rfl (lo_lss rfl rfl) (ow_nil (seqK_n (cw_seq ?_)))))
  refine cw_cond rfl (fun h54 => ?_) (fun h54 => ?_)
  · have p55 := dt h54
    refine cw_skip (seqK_n (cw_seq (cw_block (cw_seq (cw_region ?_)))))
    obtain ⟨c56, hc57⟩ := getE (xs := ls) (m := k) (by omega)
    obtain ⟨cs58, hE59, at60⟩ := (ls_h.mono (((HLe.refl _).trans hl2).trans hl53) (fun _ _ q => (slE_mono shopRE_mono) _ _ _ _ (((HLe.refl _).trans hl2).trans hl53) q)).get hc57
    obtain ⟨a61, c62, rfl, hs63⟩ := hE59
    have hdl : (ls.drop k).flatten.length = c56.length + (ls.drop (k + 1)).flatten.length := by rw [dropE hc57, List.flatten_cons, List.length_append]
    refine ol rfl (lo_indexAddr rfl rfl (ls_h.mono (((HLe.refl _).trans hl2).trans hl53) (fun _ _ q => (slE_mono shopRE_mono) _ _ _ _ (((HLe.refl _).trans hl2).trans hl53) q)).1 at60 Tryz.underlying312 sz278 (by omega) (by omega)) (ol rfl (lo_loadE1 rfl ag278 at60) (ol rfl (lo_assign (v := .slice _ _ _) rfl) (ow_nil (seqK_n (cw_region ?_)))))
    refine ol rfl (lo_move rfl) (ol rfl (lo_move (v := .slice _ _ _) rfl) (ow1 (op1_app 0 rfl rfl Tryz.underlying278 Tryz.underlying278 rfl sz54 by54 (by decide) zr54 ho (src_slh (enc := ShopR.cells) (wf := ShopR.wf) (fun _ => rfl) hs63) (one_flat (fun _ => rfl) _) rfl (by omega) rfl (fun v64 en65 ho66 => ?_))))
    have ho67 := own_cat (enc := ShopR.cells) out c56 ho66
    refine ol rfl (lo_assign rfl) (ow_nil (blkK_n (seqK_n (cw_region (ol rfl (lo_add rfl rfl (rg_i64 (by omega))) ?_)))))
    refine omi rfl rfl (ow_nil ?_)
    refine next4 (k + 1) (out ++ c56) v64 en65 (upd_intro (upd_intro (mask_intro (by first | exact off_refl | (repeat (first | exact off_mask | refine off_upd rfl ?_ | refine off_mask2 rfl ?_)))) rfl) rfl) (lupd_intro (lmask_intro (by first | exact offl_refl | (repeat (first | exact offl_mask | refine offl_upd rfl ?_ | refine offl_mask2 rfl ?_)))) rfl) hl53 ?_ ?_
    · refine ⟨by omega, ?_, ho67, (wf_cat hw (slh_wf hs63))⟩
      rw [hk2, dropE hc57, List.flatten_cons]; simp
    omega
  have p68 := df h54
  refine cw_exit (seqK_e (loopK_e (blkK_hit (seqK_n (cw_seq ?_)))))
  refine cw_region (ol rfl (lo_move rfl) (ol rfl (lo_assign rfl) (ow_nil (seqK_n (cw_giveO 0 rfl (fun _ hl69 hg70 => ?_))))))
  have hs71 := slh_own (enc := ShopR.cells) (wf := ShopR.wf) (fun _ => rfl) ho hw hg70
  obtain ⟨⟨a72, c73, rfl, -⟩, -⟩ := id hs71
  refine cw_ret (fnK_r (res1 rfl (rv_t (v := .slice _ _ _) rfl)) ((((HLe.refl _).trans hl2).trans hl53).trans hl69) ?_)
  have e : ls.flatten = out := by rw [hk2, List.drop_of_length_le (by omega)]; simp
  rw [e]
  exact ⟨_, _, rfl, hs71⟩
theorem concat_Bind (H : Hp) (ls_a : Option Addr) (ls_l ls_c : Nat) (ls : List (List BindR)) (ls_h : SlH (slE bindRE 6) 1 H (.slice ls_a ls_l ls_c) ls) (hls : ls.length ≤ 1000) (hlt : ls.flatten.length ≤ 1000000) : Ph Tryz.prog 250 #[.slice ls_a ls_l ls_c] H (fun v H' => ∃ (a1 : Option Addr) (c1 : Nat), v = .slice a1 ((ls).flatten).length c1 ∧ SlH bindRE 6 H' (.slice a1 ((ls).flatten).length c1) ((ls).flatten)) := by
  refine ph_cw Tryz.func250 rfl Tryz.ntmps250 rfl (fun N => ?_)
  refine cw_seq (cw_region (ol rfl (lo_assign (v := .slice _ _ _) rfl) (ow_nil (seqK_n (cw_seq ?_)))))
  refine cw_region (oai rfl rfl (ow_nil (seqK_n (cw_seq (cw_seq ?_)))))
  refine cw_region (ol rfl (lo_move (v := .slice _ _ _) rfl) (ol rfl (lo_len_slh rfl ls_h Tryz.underlying316) (omi rfl rfl (ow_nil (seqK_n ?_)))))
  refine cw_block (cw_loop2 [3, 5, 11, 12, 13, 14, 15, 16, 17, 18, 19, 20, 21, 22] [] (fun (k : Nat) (z : Nat) G => upd (upd (G) 11 (.int .i64 (k : Int))) 3 (.int .i64 (z : Int))) (fun (k : Nat) (z : Nat) G => G) (fun (k : Nat) (z : Nat) H' => k ≤ ls.length ∧ z + (ls.drop k).flatten.length = ls.flatten.length) (fun (k : Nat) (z : Nat) => ls.length - k) 0 0 (upd_intro (upd_intro (mask_intro (by first | exact off_refl | (repeat (first | exact off_mask | refine off_upd rfl ?_ | refine off_mask2 rfl ?_)))) rfl) rfl) (lmask_intro offl_refl) ?_ ?_)
  · exact ⟨Nat.zero_le _, by simp⟩
  intro k z J2 JL2 H2 hp1 hl2
  obtain ⟨hk1, hk2⟩ := hp1
  refine cw_seq (cw_region (ol rfl (lo_lss rfl rfl) (ow_nil (seqK_n (cw_seq ?_)))))
  refine cw_cond rfl (fun h3 => ?_) (fun h3 => ?_)
  · have p4 := dt h3
    refine cw_skip (seqK_n (cw_seq (cw_block (cw_seq (cw_region ?_)))))
    obtain ⟨c5, hc6⟩ := getE (xs := ls) (m := k) (by omega)
    obtain ⟨cs7, hE8, at9⟩ := (ls_h.mono ((HLe.refl _).trans hl2) (fun _ _ q => (slE_mono bindRE_mono) _ _ _ _ ((HLe.refl _).trans hl2) q)).get hc6
    obtain ⟨a10, c11, rfl, hs12⟩ := hE8
    have hdl : (ls.drop k).flatten.length = c5.length + (ls.drop (k + 1)).flatten.length := by rw [dropE hc6, List.flatten_cons, List.length_append]
    refine ol rfl (lo_indexAddr rfl rfl (ls_h.mono ((HLe.refl _).trans hl2) (fun _ _ q => (slE_mono bindRE_mono) _ _ _ _ ((HLe.refl _).trans hl2) q)).1 at9 Tryz.underlying316 sz279 (by omega) (by omega)) (ol rfl (lo_loadE1 rfl ag279 at9) (ol rfl (lo_assign (v := .slice _ _ _) rfl) (ow_nil (seqK_n (cw_seq ?_)))))
    refine cw_region (omi rfl rfl (ol rfl (lo_move (v := .slice _ _ _) rfl) (ol rfl (lo_len_slh rfl hs12 Tryz.underlying279) (ol rfl (lo_add rfl rfl (rg_i64 (by omega))) (oai rfl rfl ?_)))))
    refine ow_nil (seqK_n (cw_seq (cw_region (omi rfl rfl (ol rfl (lo_lss rfl rfl) ?_)))))
    refine ow_nil (seqK_n (cw_cond rfl (fun h13 => ?_) (fun h13 => ?_)))
    · have p14 := dt h13
      exfalso; omega
    have p15 := df h13
    refine cw_skip (blkK_n (seqK_n (cw_region (ol rfl (lo_add rfl rfl (rg_i64 (by omega))) (omi rfl rfl ?_)))))
    refine ow_nil ?_
    refine next2 (k + 1) (z + c5.length) (upd_intro (upd_intro (mask_intro (by first | exact off_refl | (repeat (first | exact off_mask | refine off_upd rfl ?_ | refine off_mask2 rfl ?_)))) rfl) (congrArg (Value.int .i64) (by omega))) (lmask_intro (by first | exact offl_refl | (repeat (first | exact offl_mask | refine offl_upd rfl ?_ | refine offl_mask2 rfl ?_)))) hl2 ?_ ?_
    · exact ⟨by omega, by omega⟩
    omega
  have p16 := df h3
  refine cw_exit (seqK_e (loopK_e (blkK_hit (seqK_n (cw_seq ?_)))))
  refine cw_region (omi rfl rfl ?_)
  refine ow1 (op1_in (en_f cb263 rfl) Tryz.func263 rfl Tryz.ntmps263 rfl rfl ?_)
  refine cw_seq (cw_region (ol rfl (lo_assign (v := .slice _ _ _) rfl) (ow_nil (seqK_n (cw_seq ?_)))))
  refine cw_seq (cw_region (omi rfl rfl (ol rfl (lo_lss rfl rfl) (ow_nil (seqK_n ?_)))))
  refine cw_cond rfl (fun h17 => ?_) (fun h17 => ?_)
  · have p18 := dt h17
    exfalso; omega
  have p19 := df h17
  refine cw_skip (seqK_n (cw_seq (cw_seq (cw_region (omi rfl rfl ?_)))))
  refine ol rfl (lo_move (v := .slice _ _ _) rfl) (ol rfl (lo_cap_sl rfl Tryz.underlying279) (ol rfl (lo_move (v := .slice _ _ _) rfl) (ol rfl (lo_len_sl rfl Tryz.underlying279) (ol rfl (lo_sub rfl rfl (rg_i64 (by omega))) (ol rfl (lo_sub rfl rfl (rg_i64 (by omega))) ?_)))))
  refine oai rfl rfl (ow_nil (seqK_n (cw_seq (cw_region (omi rfl rfl ?_)))))
  refine ol rfl (lo_gtr rfl rfl) (ow_nil (seqK_n (cw_cond rfl (fun h20 => ?_) (fun h20 => ?_))))
  · have p21 := dt h20
    refine cw_region (ol rfl (lo_move (v := .slice _ _ _) rfl) (ol rfl (lo_move (v := .slice _ _ _) rfl) (ol rfl (lo_cap_sl rfl Tryz.underlying279) (ol rfl (lo_slice_hi (a := none) (c := 0) 0 rfl rfl Tryz.underlying279 sz58 rfl (by decide)) (omi rfl rfl ?_)))))
    refine ow1 (op1_appz (m := (((z : Int) - (0 - 0))).toNat) 0 rfl rfl Tryz.underlying279 Tryz.underlying3 sz58 by58 (by decide) zr58 rfl (List.all_eq_true.1 rfl) (by omega) (by omega) (by omega) rfl (fun v22 en23 cs24 ho25 => ?_))
    refine ol rfl (lo_move (v := .slice _ _ _) rfl) (ol rfl (lo_len_sl rfl Tryz.underlying279) ?_)
    obtain ⟨a26, c27, rfl, ho28⟩ := ownV_cut ho25
    refine ol rfl (lo_slice_cut (a := a26) (c := c27) rfl rfl Tryz.underlying279 sz58 rfl) (ol rfl (lo_assign rfl) (ow_nil (seqK_n (cw_seq (cw_region ?_)))))
    refine ol rfl (lo_move rfl) (ol rfl (lo_assign rfl) (ow_nil (seqK_n (cw_ret (fnK_r (res1 rfl (rv_t rfl)) (.refl _) ?_)))))
    refine ol rfl (lo_assign rfl) (ow_nil (seqK_n (cw_seq (cw_seq (cw_region ?_)))))
    refine ol rfl (lo_move (v := .slice _ _ _) rfl) (ol rfl (lo_len_slh rfl (ls_h.mono ((HLe.refl _).trans hl2) (fun _ _ q => (slE_mono bindRE_mono) _ _ _ _ ((HLe.refl _).trans hl2) q)) Tryz.underlying316) (omi rfl rfl (ow_nil (seqK_n (cw_block ?_)))))
    refine cw_loop5 [6, 8, 27, 28, 29, 30, 31, 32, 33, 34] [0] (fun (k : Nat) (out : List BindR) (v : Value) (en : Option (Nat × Obj)) (cs : List Value) G => upd (upd (G) 27 (.int .i64 (k : Int))) 6 (v)) (fun (k : Nat) (out : List BindR) (v : Value) (en : Option (Nat × Obj)) (cs : List Value) G => lupd (G) 0 (en)) (fun (k : Nat) (out : List BindR) (v : Value) (en : Option (Nat × Obj)) (cs : List Value) H' => k ≤ ls.length ∧ ls.flatten = out ++ (ls.drop k).flatten ∧ OwnV 6 58 v en out.length cs ∧ Rl bindRE H' out cs) (fun (k : Nat) (out : List BindR) (v : Value) (en : Option (Nat × Obj)) (cs : List Value) => ls.length - k) 0 [] (.slice a26 0 c27) en23 [] (upd_intro (upd_intro (mask_intro (by first | exact off_refl | (repeat (first | exact off_mask | refine off_upd rfl ?_ | refine off_mask2 rfl ?_)))) rfl) rfl) (lupd_intro (lmask_intro offl_refl) rfl) ?_ ?_
    · exact ⟨Nat.zero_le _, rfl, ho28, rl_nil⟩
    intro k out v en cs J30 JL30 H30 hp29 hl30
    obtain ⟨hk1, hk2, ho, hw⟩ := hp29
    have hfl : ls.flatten.length = out.length + (ls.drop k).flatten.length := by rw [hk2, List.length_append]
    refine cw_seq (cw_region (ol rfl (lo_lss rfl rfl) (ow_nil (seqK_n (cw_seq ?_)))))
    refine cw_cond rfl (fun h31 => ?_) (fun h31 => ?_)
    · have p32 := dt h31
      refine cw_skip (seqK_n (cw_seq (cw_block (cw_seq (cw_region ?_)))))
      obtain ⟨c33, hc34⟩ := getE (xs := ls) (m := k) (by omega)
      obtain ⟨cs35, hE36, at37⟩ := (ls_h.mono (((HLe.refl _).trans hl2).trans hl30) (fun _ _ q => (slE_mono bindRE_mono) _ _ _ _ (((HLe.refl _).trans hl2).trans hl30) q)).get hc34
      obtain ⟨a38, c39, rfl, hs40⟩ := hE36
      have hdl : (ls.drop k).flatten.length = c33.length + (ls.drop (k + 1)).flatten.length := by rw [dropE hc34, List.flatten_cons, List.length_append]
      refine ol rfl (lo_indexAddr rfl rfl (ls_h.mono (((HLe.refl _).trans hl2).trans hl30) (fun _ _ q => (slE_mono bindRE_mono) _ _ _ _ (((HLe.refl _).trans hl2).trans hl30) q)).1 at37 Tryz.underlying316 sz279 (by omega) (by omega)) (ol rfl (lo_loadE1 rfl ag279 at37) (ol rfl (lo_assign (v := .slice _ _ _) rfl) (ow_nil (seqK_n (cw_region ?_)))))
      refine ol rfl (lo_move rfl) (ol rfl (lo_move (v := .slice _ _ _) rfl) ?_)
      obtain ⟨nw41, hrl42, hon43, hsc44⟩ := src_slE (P := Tryz.prog) bindRE_wide hs40
      refine ow1 (op1_app 0 rfl rfl Tryz.underlying279 Tryz.underlying279 rfl sz58 by58 (by decide) zr58 ho (hsc44 _ _) hon43 rfl (by omega) rfl (fun v45 en46 ho47 => ?_))
      have ho48 := ownV_cast (len' := (out ++ c33).length) ho47 (by simp) rfl
      have hrl49 : Rl bindRE _ (out ++ c33) _ := rl_app hw hrl42
      refine ol rfl (lo_assign rfl) (ow_nil (blkK_n (seqK_n (cw_region (ol rfl (lo_add rfl rfl (rg_i64 (by omega))) ?_)))))
      refine omi rfl rfl (ow_nil ?_)
      refine next5 (k + 1) (out ++ c33) v45 en46 (cs ++ nw41) (upd_intro (upd_intro (mask_intro (by first | exact off_refl | (repeat (first | exact off_mask | refine off_upd rfl ?_ | refine off_mask2 rfl ?_)))) rfl) rfl) (lupd_intro (lmask_intro (by first | exact offl_refl | (repeat (first | exact offl_mask | refine offl_upd rfl ?_ | refine offl_mask2 rfl ?_)))) rfl) hl30 ?_ ?_
      · refine ⟨by omega, ?_, ho48, hrl49⟩
        rw [hk2, dropE hc34, List.flatten_cons]; simp
      omega
    have p50 := df h31
    refine cw_exit (seqK_e (loopK_e (blkK_hit (seqK_n (cw_seq ?_)))))
    refine cw_region (ol rfl (lo_move rfl) (ol rfl (lo_assign rfl) (ow_nil (seqK_n (cw_giveO 0 rfl (fun _ hl51 hg52 => ?_))))))
    have hs53 := slh_ownE (E := bindRE) bindRE_wide ho (hw.mono bindRE_mono ((HLe.refl _).trans hl51)) hg52
    obtain ⟨⟨a54, c55, rfl, -⟩, -⟩ := id hs53
    refine cw_ret (fnK_r (res1 rfl (rv_t (v := .slice _ _ _) rfl)) ((((HLe.refl _).trans hl2).trans hl30).trans hl51) ?_)
    have e : ls.flatten = out := by rw [hk2, List.drop_of_length_le (by omega)]; simp
    rw [e]
    exact ⟨_, _, rfl, hs53⟩
  have p56 := df h20
  refine cw_skip (seqK_n (cw_seq (cw_region (ol rfl (lo_move (v := .slice _ _ _) rfl) (ol rfl (lo_assign (v := .slice _ _ _) rfl) ?_)))))
  refine ow_nil (seqK_n (cw_ret (fnK_r (res1 rfl (rv_t (v := .slice _ _ _) rfl)) (.refl _) (ol rfl (lo_assign (v := .slice _ _ _) rfl) (ow_nil ?_)))))
  refine seqK_n (cw_seq (cw_seq (cw_region (ol rfl (lo_move (v := .slice _ _ _) rfl) (ol rfl (lo_len_slh rfl (ls_h.mono ((HLe.refl _).trans hl2) (fun _ _ q => (slE_mono bindRE_mono) _ _ _ _ ((HLe.refl _).trans hl2) q)) Tryz.underlying316) ?_)))))
  refine omi rfl rfl (ow_nil (seqK_n (cw_block (cw_loop5 [6, 8, 27, 28, 29, 30, 31, 32, 33, 34] [0] (fun (k : Nat) (out : List BindR) (v : Value) (en : Option (Nat × Obj)) (cs : List Value) G => upd (upd (G) 27 (.int .i64 (k : Int))) 6 (v)) (fun (k : Nat) (out : List BindR) (v : Value) (en : Option (Nat × Obj)) (cs : List Value) G => lupd (G) 0 (en)) (fun (k : Nat) (out : List BindR) (v : Value) (en : Option (Nat × Obj)) (cs : List Value) H' => k ≤ ls.length ∧ ls.flatten = out ++ (ls.drop k).flatten ∧ OwnV 6 58 v en out.length cs ∧ Rl bindRE H' out cs) (fun (k : Nat) (out : List BindR) (v : Value) (en : Option (Nat × Obj)) (cs : List Value) => ls.length - k) 0 [] (.slice none 0 0) none [] (upd_intro (upd_intro (mask_intro (by first | exact off_refl | (repeat (first | exact off_mask | refine off_upd rfl ?_ | refine off_mask2 rfl ?_)))) rfl) rfl) (lupd_intro (lmask_intro offl_refl) rfl) ?_ ?_))))
  · exact ⟨Nat.zero_le _, rfl, ownV_nil, rl_nil⟩
  intro k out v en cs J58 JL58 H58 hp57 hl58
  obtain ⟨hk1, hk2, ho, hw⟩ := hp57
  have hfl : ls.flatten.length = out.length + (ls.drop k).flatten.length := by rw [hk2, List.length_append]
  refine cw_seq (cw_region (ol rfl (lo_lss rfl rfl) (ow_nil (seqK_n (cw_seq ?_)))))
  refine cw_cond rfl (fun h59 => ?_) (fun h59 => ?_)
  · have p60 := dt h59
    refine cw_skip (seqK_n (cw_seq (cw_block (cw_seq (cw_region ?_)))))
    obtain ⟨c61, hc62⟩ := getE (xs := ls) (m := k) (by omega)
    obtain ⟨cs63, hE64, at65⟩ := (ls_h.mono (((HLe.refl _).trans hl2).trans hl58) (fun _ _ q => (slE_mono bindRE_mono) _ _ _ _ (((HLe.refl _).trans hl2).trans hl58) q)).get hc62
    obtain ⟨a66, c67, rfl, hs68⟩ := hE64
    have hdl : (ls.drop k).flatten.length = c61.length + (ls.drop (k + 1)).flatten.length := by rw [dropE hc62, List.flatten_cons, List.length_append]
    refine ol rfl (lo_indexAddr rfl rfl (ls_h.mono (((HLe.refl _).trans hl2).trans hl58) (fun _ _ q => (slE_mono bindRE_mono) _ _ _ _ (((HLe.refl _).trans hl2).trans hl58) q)).1 at65 Tryz.underlying316 sz279 (by omega) (by omega)) (ol rfl (lo_loadE1 rfl ag279 at65) (ol rfl (lo_assign (v := .slice _ _ _) rfl) (ow_nil (seqK_n (cw_region ?_)))))
    refine ol rfl (lo_move rfl) (ol rfl (lo_move (v := .slice _ _ _) rfl) ?_)
    obtain ⟨nw69, hrl70, hon71, hsc72⟩ := src_slE (P := Tryz.prog) bindRE_wide hs68
    refine ow1 (op1_app 0 rfl rfl Tryz.underlying279 Tryz.underlying279 rfl sz58 by58 (by decide) zr58 ho (hsc72 _ _) hon71 rfl (by omega) rfl (fun v73 en74 ho75 => ?_))
    have ho76 := ownV_cast (len' := (out ++ c61).length) ho75 (by simp) rfl
    have hrl77 : Rl bindRE _ (out ++ c61) _ := rl_app hw hrl70
    refine ol rfl (lo_assign rfl) (ow_nil (blkK_n (seqK_n (cw_region (ol rfl (lo_add rfl rfl (rg_i64 (by omega))) ?_)))))
    refine omi rfl rfl (ow_nil ?_)
    refine next5 (k + 1) (out ++ c61) v73 en74 (cs ++ nw69) (upd_intro (upd_intro (mask_intro (by first | exact off_refl | (repeat (first | exact off_mask | refine off_upd rfl ?_ | refine off_mask2 rfl ?_)))) rfl) rfl) (lupd_intro (lmask_intro (by first | exact offl_refl | (repeat (first | exact offl_mask | refine offl_upd rfl ?_ | refine offl_mask2 rfl ?_)))) rfl) hl58 ?_ ?_
    · refine ⟨by omega, ?_, ho76, hrl77⟩
      rw [hk2, dropE hc62, List.flatten_cons]; simp
    omega
  have p78 := df h59
  refine cw_exit (seqK_e (loopK_e (blkK_hit (seqK_n (cw_seq ?_)))))
  refine cw_region (ol rfl (lo_move rfl) (ol rfl (lo_assign rfl) (ow_nil (seqK_n (cw_giveO 0 rfl (fun _ hl79 hg80 => ?_))))))
  have hs81 := slh_ownE (E := bindRE) bindRE_wide ho (hw.mono bindRE_mono ((HLe.refl _).trans hl79)) hg80
  obtain ⟨⟨a82, c83, rfl, -⟩, -⟩ := id hs81
  refine cw_ret (fnK_r (res1 rfl (rv_t (v := .slice _ _ _) rfl)) ((((HLe.refl _).trans hl2).trans hl58).trans hl79) ?_)
  have e : ls.flatten = out := by rw [hk2, List.drop_of_length_le (by omega)]; simp
  rw [e]
  exact ⟨_, _, rfl, hs81⟩
end Go.SW
set_option linter.unusedVariables false
set_option maxRecDepth 100000
set_option maxHeartbeats 4000000
namespace Go.SW
open Go.Proofs
theorem ag281 : Ag Tryz.prog 281 true := fun w => by kernel_rfl
theorem cb245 : Callable Tryz.prog 245 := callable_of Tryz.func245 (by kernel_rfl) (by kernel_rfl)
theorem cb246 : Callable Tryz.prog 246 := callable_of Tryz.func246 (by kernel_rfl) (by kernel_rfl)
theorem cb247 : Callable Tryz.prog 247 := callable_of Tryz.func247 (by kernel_rfl) (by kernel_rfl)
theorem sz281 : Sz Tryz.prog 281 2 := fun w => by kernel_rfl
theorem zr281 : Zr Tryz.prog 281 [.slice none 0 0, .slice none 0 0] := fun w => ⟨.agg #[.slice none 0 0, .slice none 0 0], by kernel_rfl, rfl⟩
theorem zx278 : ∃ z, ∀ w, (zeroValue 278).run Tryz.prog w = .ok z w := ⟨.slice none 0 0, fun w => by kernel_rfl⟩
theorem zx54 : ∃ z, ∀ w, (zeroValue 54).run Tryz.prog w = .ok z w := ⟨.agg #[str [], .int .u8 0, str []], fun w => by kernel_rfl⟩
theorem book_Make (H : Hp) (b : BookR) (b_shops_a : Option Addr) (b_shops_c : Nat) (b_shops_h : SlH shopRE 3 H (.slice b_shops_a b.shops.length b_shops_c) b.shops) (b_binds_a : Option Addr) (b_binds_c : Nat) (b_binds_h : SlH bindRE 6 H (.slice b_binds_a b.binds.length b_binds_c) b.binds) (b_w : BookR.wf b) (x : ShopR) (x_w : ShopR.wf x) : Ph Tryz.prog 229 #[.agg (BookR.cells b b_shops_a b_shops_c b_binds_a b_binds_c).toArray, .agg (ShopR.cells x).toArray] H (fun v H' => ∃ (a1 : Option Addr) (c1 : Nat) (a2 : Option Addr) (c2 : Nat), v = .tuple #[.agg (BookR.cells ((makeS b x).1) a1 c1 a2 c2).toArray, .int .i64 ((makeS b x).2)] ∧ SlH shopRE 3 H' (.slice a1 (((makeS b x).1).shops).length c1) (((makeS b x).1).shops) ∧ SlH bindRE 6 H' (.slice a2 (((makeS b x).1).binds).length c2) (((makeS b x).1).binds)) := by
  refine ph_cw Tryz.func229 rfl Tryz.ntmps229 rfl (fun N => ?_)
  have b_w' := b_w
  simp only [BookR.wf] at b_w'
  have x_w' := x_w
  simp only [ShopR.wf] at x_w'
  refine cw_seq (cw_region (ow1 (op1_box (cs := [_, _]) 0 rfl rfl (fun b1 => ?_))))
  refine ow1 (op1_box (cs := [_, _, _]) 1 rfl rfl (fun b2 => ?_))
  refine ow1 (op1_alloc 2 rfl zr281 (fun b3 => ?_))
  refine oai rfl rfl (ow_nil (seqK_n (cw_seq (cw_seq (cw_region ?_)))))
  refine ol rfl (lo_loadA (i := 1) (vs := [_, _, _]) rfl ag54 sz54 rfl rfl rfl) ?_
  refine ow1 (op1_pr (shop_check _ x x_w) (en_f cb245 rfl) rfl ?_)
  have := shopE_r x
  refine oai rfl rfl (ow_nil (seqK_n (cw_seq (cw_region (omi rfl rfl ?_)))))
  refine ol rfl (lo_neq rfl rfl) (ow_nil (seqK_n (cw_cond rfl (fun h4 => ?_) (fun h4 => ?_))))
  · have h5 := not_t h4
    have p6 := df h5
    refine cw_seq (cw_region (ol rfl (lo_loadA (i := 0) (vs := [_, _]) rfl ag281 sz281 rfl rfl rfl) (omi rfl rfl ?_)))
    refine ow1 (op1_storeAll (i := 2) (vs := [_, _]) rfl rfl rfl sz281 rfl rfl rfl ?_)
    refine oai rfl rfl (ow_nil (seqK_n (cw_ret (seqK_r (fnK_r (res2 rfl (rv_c (i := 2) (vs := [_, _]) rfl ag281 sz281 rfl rfl rfl) (rv_t (v := .int _ _) rfl)) (.refl _) ?_)))))
    have e : makeS b x = (b, shopE x) := by
      unfold makeS
      (repeat (first | rw [if_pos (by omega)] | rw [if_pos (by assumption)] | rw [if_pos (And.intro (by assumption) (by assumption))] | rw [if_pos (Or.inl (by assumption))] | rw [if_pos (Or.inr (by assumption))] | rw [if_neg (by omega)] | rw [if_neg (by assumption)] | rw [if_neg (not_not_intro (by assumption))] | rw [if_neg (nbt (by assumption))] | rw [if_neg (nbf (by assumption))] | rw [if_neg (nand_l (by assumption))] | rw [if_neg (nand_r (by assumption))] | rw [if_neg (nand_l (nbt (by assumption)))] | rw [if_neg (nand_r (nbt (by assumption)))] | rw [if_neg (nor_ (not_not_intro (by assumption)) (nbf (by assumption)))]))
      all_goals first | done | rfl
    rw [e]
    exact ⟨_, _, _, _, rfl, b_shops_h, b_binds_h⟩
  have h7 := not_f h4
  have p8 := dt h7
  refine cw_skip (seqK_n (cw_seq (cw_region (ol rfl (lo_loadA (i := 0) (vs := [_, _]) rfl ag281 sz281 rfl rfl rfl) (ol rfl (lo_fieldAddr rfl fl54_0) ?_)))))
  refine ol rfl (lo_load1 (i := 1) (v := str _) rfl ag9 rfl rfl) ?_
  refine ow1 (op1_pr (book_Shop _ b b_shops_a b_shops_c b_shops_h b_binds_a b_binds_c b_binds_h b_w x.name) (en_f cb246 rfl) rfl ?_)
  refine ol rfl (lo_move (v := .tuple #[_, _]) rfl) (ol rfl (lo_extract (v := .agg #[_, _, _]) rfl rfl) (ol rfl (lo_extract (v := .bool _) rfl rfl) (ow1 (op1_alloc 3 rfl zr54 (fun b9 => ?_)))))
  refine ow1 (op1_storeAll (i := 3) (vs := [_, _, _]) rfl rfl rfl sz54 rfl rfl rfl ?_)
  refine oab rfl rfl (ow_nil (seqK_n (cw_seq (cw_block (cw_seq ?_)))))
  refine cw_region (omb rfl rfl (omb rfl rfl (ow_sp (j := 1) rfl (fun h10 => ?_) (fun h10 => ?_))))
  · refine ow1 (op1_g rfl h10 rfl (lo_loadA (i := 1) (vs := [_, _, _]) rfl ag54 sz54 rfl rfl rfl) ?_)
    refine ow1 (op1_g rfl h10 rfl (lo_loadA (i := 3) (vs := [_, _, _]) rfl ag54 sz54 rfl rfl rfl) ?_)
    refine ow1 (op1_g rfl h10 rfl (lo_aeql (u := (ShopR.cells x).toArray) (v := (ShopR.cells ((shopOf b.shops x.name).getD ShopR.zero)).toArray) rfl rfl eqg54 (eqr54 _ _ 9998)) ?_)
    refine ol rfl (lo_pick_t (v := .bool _) rfl h10 rfl) (oab rfl rfl (ow_nil (seqK_n (cw_cond rfl (fun h11 => ?_) (fun h11 => ?_)))))
    · have p12 := dt h11
      refine cw_seq (cw_region (ol rfl (lo_loadA (i := 0) (vs := [_, _]) rfl ag281 sz281 rfl rfl rfl) ?_))
      refine ow1 (op1_storeAll (i := 2) (vs := [_, _]) rfl rfl rfl sz281 rfl rfl rfl ?_)
      refine oai rfl rfl (ow_nil (seqK_n (cw_ret (blkK_r (seqK_r ?_)))))
      refine fnK_r (res2 rfl (rv_c (i := 2) (vs := [_, _]) rfl ag281 sz281 rfl rfl rfl) (rv_t (v := .int _ _) rfl)) (.refl _) ?_
      have e : makeS b x = (b, 0) := by
        unfold makeS
        (repeat (first | rw [if_pos (by omega)] | rw [if_pos (by assumption)] | rw [if_pos (And.intro (by assumption) (by assumption))] | rw [if_pos (Or.inl (by assumption))] | rw [if_pos (Or.inr (by assumption))] | rw [if_neg (by omega)] | rw [if_neg (by assumption)] | rw [if_neg (not_not_intro (by assumption))] | rw [if_neg (nbt (by assumption))] | rw [if_neg (nbf (by assumption))] | rw [if_neg (nand_l (by assumption))] | rw [if_neg (nand_r (by assumption))] | rw [if_neg (nand_l (nbt (by assumption)))] | rw [if_neg (nand_r (nbt (by assumption)))] | rw [if_neg (nor_ (not_not_intro (by assumption)) (nbf (by assumption)))]))
        all_goals first | done | rfl
      rw [e]
      exact ⟨_, _, _, _, rfl, b_shops_h, b_binds_h⟩
    have p13 := df h11
    refine cw_seq (cw_region (omb rfl rfl (oab rfl rfl (ow_nil (seqK_n ?_)))))
    refine cw_cond_t rfl h10 (cw_seq (cw_region (ol rfl (lo_loadA (i := 0) (vs := [_, _]) rfl ag281 sz281 rfl rfl rfl) ?_)))
    refine ow1 (op1_storeAll (i := 2) (vs := [_, _]) rfl rfl rfl sz281 rfl rfl rfl ?_)
    refine oai rfl rfl (ow_nil (seqK_n (cw_ret (blkK_r (seqK_r ?_)))))
    refine fnK_r (res2 rfl (rv_c (i := 2) (vs := [_, _]) rfl ag281 sz281 rfl rfl rfl) (rv_t (v := .int _ _) rfl)) (.refl _) ?_
    have e : makeS b x = (b, 9) := by
      unfold makeS
      (repeat (first | rw [if_pos (by omega)] | rw [if_pos (by assumption)] | rw [if_pos (And.intro (by assumption) (by assumption))] | rw [if_pos (Or.inl (by assumption))] | rw [if_pos (Or.inr (by assumption))] | rw [if_neg (by omega)] | rw [if_neg (by assumption)] | rw [if_neg (not_not_intro (by assumption))] | rw [if_neg (nbt (by assumption))] | rw [if_neg (nbf (by assumption))] | rw [if_neg (nand_l (by assumption))] | rw [if_neg (nand_r (by assumption))] | rw [if_neg (nand_l (nbt (by assumption)))] | rw [if_neg (nand_r (nbt (by assumption)))] | rw [if_neg (nor_ (not_not_intro (by assumption)) (nbf (by assumption)))]))
      all_goals first | done | rfl
    rw [e]
    exact ⟨_, _, _, _, rfl, b_shops_h, b_binds_h⟩
  refine og rfl h10 rfl (og rfl h10 rfl (og rfl h10 rfl (ol rfl (lo_pick_f (v := .bool _) rfl h10 rfl) (oab rfl rfl (ow_nil ?_)))))
  refine seqK_n (cw_cond_f rfl rfl (cw_seq (cw_region (omb rfl rfl (oab rfl rfl ?_)))))
  refine ow_nil (seqK_n (cw_cond_f rfl h10 (cw_seq (cw_region (ol rfl (lo_fieldAddr rfl fl281_0) ?_)))))
  refine ol rfl (lo_load1 (i := 0) (v := .slice _ _ _) rfl ag278 rfl rfl) (ol rfl (lo_len_slh rfl b_shops_h Tryz.underlying278) (ol rfl (lo_geq rfl rfl) (oab rfl rfl (ow_nil (seqK_n ?_)))))
  refine cw_cond rfl (fun h14 => ?_) (fun h14 => ?_)
  · have p15 := dt h14
    refine cw_seq (cw_region (ol rfl (lo_loadA (i := 0) (vs := [_, _]) rfl ag281 sz281 rfl rfl rfl) ?_))
    refine ow1 (op1_storeAll (i := 2) (vs := [_, _]) rfl rfl rfl sz281 rfl rfl rfl ?_)
    refine oai rfl rfl (ow_nil (seqK_n (cw_ret (blkK_r (seqK_r ?_)))))
    refine fnK_r (res2 rfl (rv_c (i := 2) (vs := [_, _]) rfl ag281 sz281 rfl rfl rfl) (rv_t (v := .int _ _) rfl)) (.refl _) ?_
    have e : makeS b x = (b, 12) := by
      unfold makeS
      (repeat (first | rw [if_pos (by omega)] | rw [if_pos (by assumption)] | rw [if_pos (And.intro (by assumption) (by assumption))] | rw [if_pos (Or.inl (by assumption))] | rw [if_pos (Or.inr (by assumption))] | rw [if_neg (by omega)] | rw [if_neg (by assumption)] | rw [if_neg (not_not_intro (by assumption))] | rw [if_neg (nbt (by assumption))] | rw [if_neg (nbf (by assumption))] | rw [if_neg (nand_l (by assumption))] | rw [if_neg (nand_r (by assumption))] | rw [if_neg (nand_l (nbt (by assumption)))] | rw [if_neg (nand_r (nbt (by assumption)))] | rw [if_neg (nor_ (not_not_intro (by assumption)) (nbf (by assumption)))]))
      all_goals first | done | rfl
    rw [e]
    exact ⟨_, _, _, _, rfl, b_shops_h, b_binds_h⟩
  have p16 := df h14
  refine cw_skip (blkK_n (seqK_n (cw_seq (cw_region (ol rfl (lo_fieldAddr rfl fl281_0) ?_)))))
  refine ol rfl (lo_load1 (i := 0) (v := .slice _ _ _) rfl ag278 rfl rfl) (ol rfl (lo_loadA (i := 1) (vs := [_, _, _]) rfl ag54 sz54 rfl rfl rfl) ?_)
  refine ow1 (op1_bslice (cs := [_, _, _]) 4 rfl Tryz.underlying278 sz54 zx54 rfl ⟨rfl, rfl, trivial⟩ rfl rfl (by decide) (fun b17 => ?_))
  refine ow_giveO 4 rfl (fun _ hl18 hg19 => ?_)
  have hs20 := slh_bx (k := 3) (H := _) (enc := ShopR.cells) (wf := ShopR.wf) [x] (fun _ => rfl) (hg19 _ _ rfl) rfl rfl (Nat.le_refl _) (by first | (intro x hx; simp at hx; subst hx; first | omega | (simp; done) | (simp; omega)) | (simp; done) | (simp; omega))
  refine ow1 (op1_bslice (cs := [_, _]) 4 rfl Tryz.underlying312 sz278 zx278 rfl ⟨rfl, rfl, ⟨rfl, rfl, trivial⟩⟩ rfl rfl (by decide) (fun b21 => ?_))
  refine ow_giveO 4 rfl (fun _ hl22 hg23 => ?_)
  have hs24 := slh_bxE (E := (slE shopRE 3)) (H := _) (xs := [b.shops, [x]]) slE_wide (hg23 _ _ rfl) ⟨_, _, rfl, ⟨_, _, rfl, (b_shops_h.mono (((HLe.refl _).trans hl18).trans hl22) (fun _ _ h => h))⟩, ⟨_, _, rfl, ⟨_, _, rfl, (hs20.mono ((HLe.refl _).trans hl22) (fun _ _ h => h))⟩, rl_nil⟩⟩ rfl (Nat.le_refl _)
  refine ow1 (op1_ph (concat_Shop _ (some ⟨b21, 0, none⟩) 2 2 [b.shops, [x]] hs24 (by first | omega | (simp; done) | (simp; omega)) (by first | omega | (simp; done) | (simp; omega))) (en_f cb247 rfl) rfl ?_)
  rintro _ H29 ⟨a25, c26, rfl, hs27⟩ hl28
  refine ol rfl (lo_fieldAddr rfl fl281_0) ?_
  refine ow1 (op1_store1n (i := 0) (v := .slice _ _ _) [_, _] rfl rfl rfl sz278 rfl rfl rfl ?_)
  refine ow_nil (seqK_n (cw_seq (cw_region (ol rfl (lo_loadA (i := 0) (vs := [_, _]) rfl ag281 sz281 rfl rfl rfl) ?_))))
  refine ow1 (op1_storeAll (i := 2) (vs := [_, _]) rfl rfl rfl sz281 rfl rfl rfl ?_)
  refine oai rfl rfl (ow_nil (seqK_n (cw_ret (fnK_r (res2 rfl (rv_c (i := 2) (vs := [_, _]) rfl ag281 sz281 rfl rfl rfl) (rv_t (v := .int _ _) rfl)) ((((HLe.refl _).trans hl18).trans hl22).trans hl28) ?_))))
  have e : makeS b x = ((⟨([b.shops, [x]]).flatten, b.binds⟩ : BookR), 0) := by
    unfold makeS
    (repeat (first | rw [if_pos (by omega)] | rw [if_pos (by assumption)] | rw [if_pos (And.intro (by assumption) (by assumption))] | rw [if_pos (Or.inl (by assumption))] | rw [if_pos (Or.inr (by assumption))] | rw [if_neg (by omega)] | rw [if_neg (by assumption)] | rw [if_neg (not_not_intro (by assumption))] | rw [if_neg (nbt (by assumption))] | rw [if_neg (nbf (by assumption))] | rw [if_neg (nand_l (by assumption))] | rw [if_neg (nand_r (by assumption))] | rw [if_neg (nand_l (nbt (by assumption)))] | rw [if_neg (nand_r (nbt (by assumption)))] | rw [if_neg (nor_ (not_not_intro (by assumption)) (nbf (by assumption)))]))
    all_goals first | done | rfl
  rw [e]
  exact ⟨_, _, _, _, rfl, hs27, (b_binds_h.mono ((((HLe.refl _).trans hl18).trans hl22).trans hl28) (fun _ _ q => bindRE_mono _ _ _ _ ((((HLe.refl _).trans hl18).trans hl22).trans hl28) q))⟩
end Go.SW
set_option linter.unusedVariables false
set_option maxRecDepth 100000
set_option maxHeartbeats 4000000
namespace Go.SW
open Go.Proofs
theorem bd292_0u8_1s_2l_3b (a1 : Int) (a2 : Bs) (a3 : Option Addr) (a3l a3c : Nat) (a4 : Bool) (w : World) : (Instr.build 292 #[(0, .int .u8 a1), (1, str a2), (2, .slice a3 a3l a3c), (3, .bool a4)]).run Tryz.prog w = .ok (.agg #[.int .u8 a1, str a2, .slice a3 a3l a3c, .bool a4]) w := by kernel_rfl
theorem cb211 : Callable Tryz.prog 211 := callable_of Tryz.func211 (by kernel_rfl) (by kernel_rfl)
theorem cb248 : Callable Tryz.prog 248 := callable_of Tryz.func248 (by kernel_rfl) (by kernel_rfl)
theorem cb261 : Callable Tryz.prog 261 := callable_of Tryz.func261 (by kernel_rfl) (by kernel_rfl)
theorem cb262 : Callable Tryz.prog 262 := callable_of Tryz.func262 (by kernel_rfl) (by kernel_rfl)
theorem cb270 : Callable Tryz.prog 270 := callable_of Tryz.func270 (by kernel_rfl) (by kernel_rfl)
theorem fl281_1 : Fld Tryz.prog 281 1 1 := fun b o w => by kernel_rfl
theorem bind_rule (H : Hp) (x : BindR) (x_want_a : Option Addr) (x_want_c : Nat) (x_want_h : SlH pairE 4 H (.slice x_want_a x.want.length x_want_c) x.want) (x_w : BindR.wf x) (sort : Int) (sort_r : 0 ≤ sort ∧ sort ≤ 255) : Ph Tryz.prog 248 #[.agg (BindR.cells x x_want_a x_want_c).toArray, .int .u8 sort] H (fun v H' => ∃ (a1 : Option Addr) (c1 : Nat), v = .agg (Rule.cells (bindRule x sort) a1 c1).toArray ∧ SlH pairE 4 H' (.slice a1 ((bindRule x sort).want).length c1) ((bindRule x sort).want)) := by
  refine ph_cw Tryz.func248 rfl Tryz.ntmps248 rfl (fun N => ?_)
  have x_w' := x_w
  simp only [BindR.wf] at x_w'
  refine cw_seq (cw_region (ow1 (op1_box (cs := [_, _, _, _, _, _]) 0 rfl rfl (fun b1 => ?_))))
  refine ow1 (op1_alloc 1 rfl zr292 (fun b2 => ?_))
  refine ow_nil (seqK_n (cw_seq (cw_region (omi rfl rfl (ol rfl (lo_fieldAddr rfl fl58_3) ?_)))))
  refine ol rfl (lo_load1 (i := 0) (v := str _) rfl ag9 rfl rfl) (ol rfl (lo_fieldAddr rfl fl58_4) (ol rfl (lo_load1 (i := 0) (v := .slice _ _ _) rfl ag26 rfl rfl) (ol rfl (lo_fieldAddr rfl fl58_5) (ol rfl (lo_load1 (i := 0) (v := .bool _) rfl ag4 rfl rfl) (ol rfl (lo_build (v := .agg #[_, _, _, _]) rfl (bd292_0u8_1s_2l_3b _ _ _ _ _ _)) ?_)))))
  refine ow1 (op1_storeAll (i := 1) (vs := [_, _, _, _]) rfl rfl rfl sz292 rfl rfl rfl ?_)
  refine ow_nil (seqK_n (cw_ret (fnK_r (res1 rfl (rv_c (i := 1) (vs := [_, _, _, _]) rfl ag292 sz292 rfl rfl rfl)) (.refl _) ?_)))
  exact ⟨_, _, rfl, x_want_h⟩
theorem bind_same (H : Hp) (x : BindR) (x_want_a : Option Addr) (x_want_c : Nat) (x_want_h : SlH pairE 4 H (.slice x_want_a x.want.length x_want_c) x.want) (x_w : BindR.wf x) (y : BindR) (y_want_a : Option Addr) (y_want_c : Nat) (y_want_h : SlH pairE 4 H (.slice y_want_a y.want.length y_want_c) y.want) (y_w : BindR.wf y) : Pr Tryz.prog 262 #[.agg (BindR.cells x x_want_a x_want_c).toArray, .agg (BindR.cells y y_want_a y_want_c).toArray] H (.bool (decide (x = y))) := by
  refine pr_cw Tryz.func262 rfl Tryz.ntmps262 rfl (fun N => ?_)
  have x_w' := x_w
  simp only [BindR.wf] at x_w'
  have y_w' := y_w
  simp only [BindR.wf] at y_w'
  refine cw_seq (cw_region (ow1 (op1_box (cs := [_, _, _, _, _, _]) 0 rfl rfl (fun b1 => ?_))))
  refine ow1 (op1_box (cs := [_, _, _, _, _, _]) 1 rfl rfl (fun b2 => ?_))
  refine oab rfl rfl (ow_nil (seqK_n (cw_seq (cw_anyL mixd (vw_q 0 rfl (by kernel_rfl) (by repeat (first | exact lle_l0 | exact LLe.refl _ | exact lle_none | refine lle_up ?_ rfl)) (fun _ _ hh hl => lo_fieldAddr rfl fl58_0) ?_)))))
  refine vw_q 1 rfl (by kernel_rfl) (by repeat (first | exact lle_l0 | exact LLe.refl _ | exact lle_none | refine lle_up ?_ rfl)) (fun _ _ hh hl => lo_load1 (i := 0) (v := str _) rfl ag9 (hl _ _ rfl) rfl) ?_
  refine vw_q 2 rfl (by kernel_rfl) (by repeat (first | exact lle_l0 | exact LLe.refl _ | exact lle_none | refine lle_up ?_ rfl)) (fun _ _ hh hl => lo_fieldAddr rfl fl58_0) ?_
  refine vw_q 3 rfl (by kernel_rfl) (by repeat (first | exact lle_l0 | exact LLe.refl _ | exact lle_none | refine lle_up ?_ rfl)) (fun _ _ hh hl => lo_load1 (i := 1) (v := str _) rfl ag9 (hl _ _ rfl) rfl) ?_
  refine vw_q 4 rfl (by kernel_rfl) (by repeat (first | exact lle_l0 | exact LLe.refl _ | exact lle_none | refine lle_up ?_ rfl)) (fun _ _ hh hl => lo_seql rfl rfl) ?_
  refine vw_q 5 rfl (by kernel_rfl) (by repeat (first | exact lle_l0 | exact LLe.refl _ | exact lle_none | refine lle_up ?_ rfl)) (fun _ _ hh hl => lo_move (v := .bool _) rfl) ?_
  refine vw_sp (j := 5) rfl (fun h3 => ?_) (fun h3 => ?_)
  · have p4 := dt h3
    refine vw_qg 6 rfl (by kernel_rfl) (by repeat (first | exact lle_l0 | exact LLe.refl _ | exact lle_none | refine lle_up ?_ rfl)) rfl h3 (fun _ _ hh hl => lo_fieldAddr rfl fl58_1) ?_
    refine vw_qg 7 rfl (by kernel_rfl) (by repeat (first | exact lle_l0 | exact LLe.refl _ | exact lle_none | refine lle_up ?_ rfl)) rfl h3 (fun _ _ hh hl => lo_load1 (i := 0) (v := str _) rfl ag9 (hl _ _ rfl) rfl) ?_
    refine vw_qg 8 rfl (by kernel_rfl) (by repeat (first | exact lle_l0 | exact LLe.refl _ | exact lle_none | refine lle_up ?_ rfl)) rfl h3 (fun _ _ hh hl => lo_fieldAddr rfl fl58_1) ?_
    refine vw_qg 9 rfl (by kernel_rfl) (by repeat (first | exact lle_l0 | exact LLe.refl _ | exact lle_none | refine lle_up ?_ rfl)) rfl h3 (fun _ _ hh hl => lo_load1 (i := 1) (v := str _) rfl ag9 (hl _ _ rfl) rfl) ?_
    refine vw_qg 10 rfl (by kernel_rfl) (by repeat (first | exact lle_l0 | exact LLe.refl _ | exact lle_none | refine lle_up ?_ rfl)) rfl h3 (fun _ _ hh hl => lo_seql rfl rfl) ?_
    refine vw_q 11 rfl (by kernel_rfl) (by repeat (first | exact lle_l0 | exact LLe.refl _ | exact lle_none | refine lle_up ?_ rfl)) (fun _ _ hh hl => lo_pick_t (v := .bool _) rfl h3 rfl) ?_
    refine vw_q 12 rfl (by kernel_rfl) (by repeat (first | exact lle_l0 | exact LLe.refl _ | exact lle_none | refine lle_up ?_ rfl)) (fun _ _ hh hl => lo_move (v := .bool _) rfl) ?_
    refine vw_sp (j := 12) rfl (fun h5 => ?_) (fun h5 => ?_)
    · have p6 := dt h5
      refine vw_qg 13 rfl (by kernel_rfl) (by repeat (first | exact lle_l0 | exact LLe.refl _ | exact lle_none | refine lle_up ?_ rfl)) rfl h5 (fun _ _ hh hl => lo_fieldAddr rfl fl58_2) ?_
      refine vw_qg 14 rfl (by kernel_rfl) (by repeat (first | exact lle_l0 | exact LLe.refl _ | exact lle_none | refine lle_up ?_ rfl)) rfl h5 (fun _ _ hh hl => lo_load1 (i := 0) (v := .bool _) rfl ag4 (hl _ _ rfl) rfl) ?_
      refine vw_qg 15 rfl (by kernel_rfl) (by repeat (first | exact lle_l0 | exact LLe.refl _ | exact lle_none | refine lle_up ?_ rfl)) rfl h5 (fun _ _ hh hl => lo_fieldAddr rfl fl58_2) ?_
      refine vw_qg 16 rfl (by kernel_rfl) (by repeat (first | exact lle_l0 | exact LLe.refl _ | exact lle_none | refine lle_up ?_ rfl)) rfl h5 (fun _ _ hh hl => lo_load1 (i := 1) (v := .bool _) rfl ag4 (hl _ _ rfl) rfl) ?_
      refine vw_qg 17 rfl (by kernel_rfl) (by repeat (first | exact lle_l0 | exact LLe.refl _ | exact lle_none | refine lle_up ?_ rfl)) rfl h5 (fun _ _ hh hl => lo_beql rfl rfl Tryz.underlying4) ?_
      refine vw_q 18 rfl (by kernel_rfl) (by repeat (first | exact lle_l0 | exact LLe.refl _ | exact lle_none | refine lle_up ?_ rfl)) (fun _ _ hh hl => lo_pick_t (v := .bool _) rfl h5 rfl) ?_
      refine vw_q 19 rfl (by kernel_rfl) (by repeat (first | exact lle_l0 | exact LLe.refl _ | exact lle_none | refine lle_up ?_ rfl)) (fun _ _ hh hl => lo_move (v := .bool _) rfl) ?_
      refine vw_sp (j := 19) rfl (fun h7 => ?_) (fun h7 => ?_)
      · have p8 := beqT h7
        refine vw_qg 20 rfl (by kernel_rfl) (by repeat (first | exact lle_l0 | exact LLe.refl _ | exact lle_none | refine lle_up ?_ rfl)) rfl h7 (fun _ _ hh hl => lo_loadA (i := 0) (vs := [_, _, _, _, _, _]) rfl ag58 sz58 (hl _ _ rfl) rfl rfl) ?_
        refine vw_qg 22 rfl (by kernel_rfl) (by repeat (first | exact lle_l0 | exact LLe.refl _ | exact lle_none | refine lle_up ?_ rfl)) rfl h7 (fun _ _ hh hl => lo_loadA (i := 1) (vs := [_, _, _, _, _, _]) rfl ag58 sz58 (hl _ _ rfl) rfl rfl) ?_
        refine vw_e 21 rfl (by kernel_rfl) (op1_phg rfl h7 (bind_rule _ x x_want_a x_want_c x_want_h x_w 0 (by omega)) (en_f cb248 rfl) rfl ?_)
        rintro _ H13 ⟨a9, c10, rfl, hs11⟩ hl12
        refine ⟨⟨((HLe.refl _).trans hl12), (by repeat (first | exact lle_l0 | exact LLe.refl _ | exact lle_none | refine lle_up ?_ rfl))⟩, ?_⟩
        refine vw_e 23 rfl (by kernel_rfl) (op1_phg rfl h7 (bind_rule _ y y_want_a y_want_c (y_want_h.mono ((HLe.refl _).trans hl12) (fun _ _ h => h)) y_w 0 (by omega)) (en_f cb248 rfl) rfl ?_)
        rintro _ H18 ⟨a14, c15, rfl, hs16⟩ hl17
        refine ⟨⟨((HLe.refl _).trans hl17), (by repeat (first | exact lle_l0 | exact LLe.refl _ | exact lle_none | refine lle_up ?_ rfl))⟩, ?_⟩
        refine vw_qgc 24 rfl (by kernel_rfl) (by repeat (first | exact lle_l0 | exact LLe.refl _ | exact lle_none | refine lle_up ?_ rfl)) rfl h7 (match_Same _ (bindRule x 0) a9 c10 (hs11.mono ((HLe.refl _).trans hl17) (fun _ _ h => h)) (bindRule_wf x_w (by omega)) (bindRule y 0) a14 c15 hs16 (bindRule_wf y_w (by omega))) (en_f cb270 rfl) ?_
        refine vw_q 25 rfl (by kernel_rfl) (by repeat (first | exact lle_l0 | exact LLe.refl _ | exact lle_none | refine lle_up ?_ rfl)) (fun _ _ hh hl => lo_pick_t (v := .bool _) rfl h7 rfl) ?_
        refine vw_q 26 rfl (by kernel_rfl) (by repeat (first | exact lle_l0 | exact LLe.refl _ | exact lle_none | refine lle_up ?_ rfl)) (fun _ _ hh hl => lo_assign (v := .bool _) rfl) ?_
        refine vw_done (by kernel_rfl) (seqK_n (cw_ret (fnK_r (res1 rfl (rv_t (v := .bool _) rfl)) (((HLe.refl _).trans hl12).trans hl17) ?_)))
        first | (simp [BindR.eq_iff, bindRule, *]; done) | (simp [BindR.eq_iff, bindRule, *]; cases x.all <;> cases y.all <;> rfl)
      have p19 := beqF h7
      refine vw_qgs 20 rfl (by kernel_rfl) (by repeat (first | exact lle_l0 | exact LLe.refl _ | exact lle_none | refine lle_up ?_ rfl)) rfl h7 ?_
      refine vw_qgs 21 rfl (by kernel_rfl) (by repeat (first | exact lle_l0 | exact LLe.refl _ | exact lle_none | refine lle_up ?_ rfl)) rfl h7 ?_
      refine vw_qgs 22 rfl (by kernel_rfl) (by repeat (first | exact lle_l0 | exact LLe.refl _ | exact lle_none | refine lle_up ?_ rfl)) rfl h7 ?_
      refine vw_qgs 23 rfl (by kernel_rfl) (by repeat (first | exact lle_l0 | exact LLe.refl _ | exact lle_none | refine lle_up ?_ rfl)) rfl h7 ?_
      refine vw_qgs 24 rfl (by kernel_rfl) (by repeat (first | exact lle_l0 | exact LLe.refl _ | exact lle_none | refine lle_up ?_ rfl)) rfl h7 ?_
      refine vw_q 25 rfl (by kernel_rfl) (by repeat (first | exact lle_l0 | exact LLe.refl _ | exact lle_none | refine lle_up ?_ rfl)) (fun _ _ hh hl => lo_pick_f (v := .bool _) rfl h7 rfl) ?_
      refine vw_q 26 rfl (by kernel_rfl) (by repeat (first | exact lle_l0 | exact LLe.refl _ | exact lle_none | refine lle_up ?_ rfl)) (fun _ _ hh hl => lo_assign (v := .bool _) rfl) ?_
      refine vw_done (by kernel_rfl) (seqK_n (cw_ret (fnK_r (res1 rfl (rv_t (v := .bool _) rfl)) (.refl _) ?_)))
      first | (simp [BindR.eq_iff, bindRule, *]; done) | (simp [BindR.eq_iff, bindRule, *]; cases x.all <;> cases y.all <;> rfl)
    have p20 := df h5
    refine vw_qgs 13 rfl (by kernel_rfl) (by repeat (first | exact lle_l0 | exact LLe.refl _ | exact lle_none | refine lle_up ?_ rfl)) rfl h5 ?_
    refine vw_qgs 14 rfl (by kernel_rfl) (by repeat (first | exact lle_l0 | exact LLe.refl _ | exact lle_none | refine lle_up ?_ rfl)) rfl h5 ?_
    refine vw_qgs 15 rfl (by kernel_rfl) (by repeat (first | exact lle_l0 | exact LLe.refl _ | exact lle_none | refine lle_up ?_ rfl)) rfl h5 ?_
    refine vw_qgs 16 rfl (by kernel_rfl) (by repeat (first | exact lle_l0 | exact LLe.refl _ | exact lle_none | refine lle_up ?_ rfl)) rfl h5 ?_
    refine vw_qgs 17 rfl (by kernel_rfl) (by repeat (first | exact lle_l0 | exact LLe.refl _ | exact lle_none | refine lle_up ?_ rfl)) rfl h5 ?_
    refine vw_q 18 rfl (by kernel_rfl) (by repeat (first | exact lle_l0 | exact LLe.refl _ | exact lle_none | refine lle_up ?_ rfl)) (fun _ _ hh hl => lo_pick_f (v := .bool _) rfl h5 rfl) ?_
    refine vw_q 19 rfl (by kernel_rfl) (by repeat (first | exact lle_l0 | exact LLe.refl _ | exact lle_none | refine lle_up ?_ rfl)) (fun _ _ hh hl => lo_move (v := .bool _) rfl) ?_
    refine vw_qgs 20 rfl (by kernel_rfl) (by repeat (first | exact lle_l0 | exact LLe.refl _ | exact lle_none | refine lle_up ?_ rfl)) rfl rfl ?_
    refine vw_qgs 21 rfl (by kernel_rfl) (by repeat (first | exact lle_l0 | exact LLe.refl _ | exact lle_none | refine lle_up ?_ rfl)) rfl rfl ?_
    refine vw_qgs 22 rfl (by kernel_rfl) (by repeat (first | exact lle_l0 | exact LLe.refl _ | exact lle_none | refine lle_up ?_ rfl)) rfl rfl ?_
    refine vw_qgs 23 rfl (by kernel_rfl) (by repeat (first | exact lle_l0 | exact LLe.refl _ | exact lle_none | refine lle_up ?_ rfl)) rfl rfl ?_
    refine vw_qgs 24 rfl (by kernel_rfl) (by repeat (first | exact lle_l0 | exact LLe.refl _ | exact lle_none | refine lle_up ?_ rfl)) rfl rfl ?_
    refine vw_q 25 rfl (by kernel_rfl) (by repeat (first | exact lle_l0 | exact LLe.refl _ | exact lle_none | refine lle_up ?_ rfl)) (fun _ _ hh hl => lo_pick_f (v := .bool _) rfl rfl rfl) ?_
    refine vw_q 26 rfl (by kernel_rfl) (by repeat (first | exact lle_l0 | exact LLe.refl _ | exact lle_none | refine lle_up ?_ rfl)) (fun _ _ hh hl => lo_assign (v := .bool _) rfl) ?_
    refine vw_done (by kernel_rfl) (seqK_n (cw_ret (fnK_r (res1 rfl (rv_t (v := .bool _) rfl)) (.refl _) ?_)))
    first | (simp [BindR.eq_iff, bindRule, *]; done) | (simp [BindR.eq_iff, bindRule, *]; cases x.all <;> cases y.all <;> rfl)
  have p21 := df h3
  refine vw_qgs 6 rfl (by kernel_rfl) (by repeat (first | exact lle_l0 | exact LLe.refl _ | exact lle_none | refine lle_up ?_ rfl)) rfl h3 ?_
  refine vw_qgs 7 rfl (by kernel_rfl) (by repeat (first | exact lle_l0 | exact LLe.refl _ | exact lle_none | refine lle_up ?_ rfl)) rfl h3 ?_
  refine vw_qgs 8 rfl (by kernel_rfl) (by repeat (first | exact lle_l0 | exact LLe.refl _ | exact lle_none | refine lle_up ?_ rfl)) rfl h3 ?_
  refine vw_qgs 9 rfl (by kernel_rfl) (by repeat (first | exact lle_l0 | exact LLe.refl _ | exact lle_none | refine lle_up ?_ rfl)) rfl h3 ?_
  refine vw_qgs 10 rfl (by kernel_rfl) (by repeat (first | exact lle_l0 | exact LLe.refl _ | exact lle_none | refine lle_up ?_ rfl)) rfl h3 ?_
  refine vw_q 11 rfl (by kernel_rfl) (by repeat (first | exact lle_l0 | exact LLe.refl _ | exact lle_none | refine lle_up ?_ rfl)) (fun _ _ hh hl => lo_pick_f (v := .bool _) rfl h3 rfl) ?_
  refine vw_q 12 rfl (by kernel_rfl) (by repeat (first | exact lle_l0 | exact LLe.refl _ | exact lle_none | refine lle_up ?_ rfl)) (fun _ _ hh hl => lo_move (v := .bool _) rfl) ?_
  refine vw_qgs 13 rfl (by kernel_rfl) (by repeat (first | exact lle_l0 | exact LLe.refl _ | exact lle_none | refine lle_up ?_ rfl)) rfl rfl ?_
  refine vw_qgs 14 rfl (by kernel_rfl) (by repeat (first | exact lle_l0 | exact LLe.refl _ | exact lle_none | refine lle_up ?_ rfl)) rfl rfl ?_
  refine vw_qgs 15 rfl (by kernel_rfl) (by repeat (first | exact lle_l0 | exact LLe.refl _ | exact lle_none | refine lle_up ?_ rfl)) rfl rfl ?_
  refine vw_qgs 16 rfl (by kernel_rfl) (by repeat (first | exact lle_l0 | exact LLe.refl _ | exact lle_none | refine lle_up ?_ rfl)) rfl rfl ?_
  refine vw_qgs 17 rfl (by kernel_rfl) (by repeat (first | exact lle_l0 | exact LLe.refl _ | exact lle_none | refine lle_up ?_ rfl)) rfl rfl ?_
  refine vw_q 18 rfl (by kernel_rfl) (by repeat (first | exact lle_l0 | exact LLe.refl _ | exact lle_none | refine lle_up ?_ rfl)) (fun _ _ hh hl => lo_pick_f (v := .bool _) rfl rfl rfl) ?_
  refine vw_q 19 rfl (by kernel_rfl) (by repeat (first | exact lle_l0 | exact LLe.refl _ | exact lle_none | refine lle_up ?_ rfl)) (fun _ _ hh hl => lo_move (v := .bool _) rfl) ?_
  refine vw_qgs 20 rfl (by kernel_rfl) (by repeat (first | exact lle_l0 | exact LLe.refl _ | exact lle_none | refine lle_up ?_ rfl)) rfl rfl ?_
  refine vw_qgs 21 rfl (by kernel_rfl) (by repeat (first | exact lle_l0 | exact LLe.refl _ | exact lle_none | refine lle_up ?_ rfl)) rfl rfl ?_
  refine vw_qgs 22 rfl (by kernel_rfl) (by repeat (first | exact lle_l0 | exact LLe.refl _ | exact lle_none | refine lle_up ?_ rfl)) rfl rfl ?_
  refine vw_qgs 23 rfl (by kernel_rfl) (by repeat (first | exact lle_l0 | exact LLe.refl _ | exact lle_none | refine lle_up ?_ rfl)) rfl rfl ?_
  refine vw_qgs 24 rfl (by kernel_rfl) (by repeat (first | exact lle_l0 | exact LLe.refl _ | exact lle_none | refine lle_up ?_ rfl)) rfl rfl ?_
  refine vw_q 25 rfl (by kernel_rfl) (by repeat (first | exact lle_l0 | exact LLe.refl _ | exact lle_none | refine lle_up ?_ rfl)) (fun _ _ hh hl => lo_pick_f (v := .bool _) rfl rfl rfl) ?_
  refine vw_q 26 rfl (by kernel_rfl) (by repeat (first | exact lle_l0 | exact LLe.refl _ | exact lle_none | refine lle_up ?_ rfl)) (fun _ _ hh hl => lo_assign (v := .bool _) rfl) ?_
  refine vw_done (by kernel_rfl) (seqK_n (cw_ret (fnK_r (res1 rfl (rv_t (v := .bool _) rfl)) (.refl _) ?_)))
  first | (simp [BindR.eq_iff, bindRule, *]; done) | (simp [BindR.eq_iff, bindRule, *]; cases x.all <;> cases y.all <;> rfl)
theorem bind_clone (H : Hp) (x : BindR) (x_want_a : Option Addr) (x_want_c : Nat) (x_want_h : SlH pairE 4 H (.slice x_want_a x.want.length x_want_c) x.want) (x_w : BindR.wf x) (hl : x.want.length ≤ 1000000) : Ph Tryz.prog 251 #[.agg (BindR.cells x x_want_a x_want_c).toArray] H (fun v H' => ∃ (a1 : Option Addr) (c1 : Nat), v = .agg (BindR.cells x a1 c1).toArray ∧ SlH pairE 4 H' (.slice a1 x.want.length c1) x.want) := by
  refine ph_cw Tryz.func251 rfl Tryz.ntmps251 rfl (fun N => ?_)
  have x_w' := x_w
  simp only [BindR.wf] at x_w'
  refine cw_seq (cw_region (ow1 (op1_box (cs := [_, _, _, _, _, _]) 0 rfl rfl (fun b1 => ?_))))
  refine ow1 (op1_alloc 1 rfl zr58 (fun b2 => ?_))
  refine ow_nil (seqK_n (cw_seq (cw_region (ol rfl (lo_fieldAddr rfl fl58_4) (ol rfl (lo_load1 (i := 0) (v := .slice _ _ _) rfl ag26 rfl rfl) ?_)))))
  refine ow1 (op1_ph (clone_Pair _ x_want_a x.want.length x_want_c x.want x_want_h (by first | omega | (simp; done) | (simp; omega))) (en_f cb211 rfl) rfl ?_)
  rintro _ H7 ⟨a3, c4, rfl, hs5⟩ hl6
  refine ol rfl (lo_fieldAddr rfl fl58_4) ?_
  refine ow1 (op1_store1n (i := 0) (v := .slice _ _ _) [_, _, _, _, _, _] rfl rfl rfl sz26 rfl rfl rfl ?_)
  refine ow_nil (seqK_n (cw_seq (cw_region (ol rfl (lo_loadA (i := 0) (vs := [_, _, _, _, _, _]) rfl ag58 sz58 rfl rfl rfl) ?_))))
  refine ow1 (op1_storeAll (i := 1) (vs := [_, _, _, _, _, _]) rfl rfl rfl sz58 rfl rfl rfl ?_)
  refine ow_nil (seqK_n (cw_ret (fnK_r (res1 rfl (rv_c (i := 1) (vs := [_, _, _, _, _, _]) rfl ag58 sz58 rfl rfl rfl)) ((HLe.refl _).trans hl6) ?_)))
  exact ⟨_, _, rfl, hs5⟩
theorem book_there (H : Hp) (b : BookR) (b_shops_a : Option Addr) (b_shops_c : Nat) (b_shops_h : SlH shopRE 3 H (.slice b_shops_a b.shops.length b_shops_c) b.shops) (b_binds_a : Option Addr) (b_binds_c : Nat) (b_binds_h : SlH bindRE 6 H (.slice b_binds_a b.binds.length b_binds_c) b.binds) (b_w : BookR.wf b) (x : BindR) (x_want_a : Option Addr) (x_want_c : Nat) (x_want_h : SlH pairE 4 H (.slice x_want_a x.want.length x_want_c) x.want) (x_w : BindR.wf x) : Pr Tryz.prog 249 #[.agg (BookR.cells b b_shops_a b_shops_c b_binds_a b_binds_c).toArray, .agg (BindR.cells x x_want_a x_want_c).toArray] H (.int .i64 (idxP (fun y => decide (x = y)) b.binds)) := by
  refine pr_cw Tryz.func249 rfl Tryz.ntmps249 rfl (fun N => ?_)
  have b_w' := b_w
  simp only [BookR.wf] at b_w'
  have x_w' := x_w
  simp only [BindR.wf] at x_w'
  refine cw_seq (cw_region (ow1 (op1_box (cs := [_, _]) 0 rfl rfl (fun b1 => ?_))))
  refine ow1 (op1_box (cs := [_, _, _, _, _, _]) 1 rfl rfl (fun b2 => ?_))
  refine oai rfl rfl (ow_nil (seqK_n (cw_seq (cw_region (ol rfl (lo_fieldAddr rfl fl281_1) ?_)))))
  refine ol rfl (lo_load1 (i := 0) (v := .slice _ _ _) rfl ag279 rfl rfl) (ol rfl (lo_loadA (i := 1) (vs := [_, _, _, _, _, _]) rfl ag58 sz58 rfl rfl rfl) (ol rfl (lo_makeFuncB (fs := [_]) (cap := []) rfl rfl) ?_))
  refine ow1 (op1_in (en_f cb261 rfl) Tryz.func261 rfl Tryz.ntmps261 rfl rfl ?_)
  refine cw_seq (cw_region (oai rfl rfl (ow_nil (seqK_n (cw_seq ?_)))))
  refine cw_seq (cw_region (ol rfl (lo_move (v := .slice _ _ _) rfl) (ol rfl (lo_len_slh rfl b_binds_h Tryz.underlying279) (omi rfl rfl (ow_nil ?_)))))
  refine seqK_n (cw_block (cw_loop1 [4, 5, 8, 9, 10, 11, 12, 13, 14, 15, 16, 17, 18] [] (fun (k : Nat) G => upd (G) 8 (.int .i64 (k : Int))) (fun (k : Nat) G => G) (fun (k : Nat) H' => k ≤ b.binds.length ∧ idxP (fun y => decide (x = y)) b.binds = idxF (fun y => decide (x = y)) k (b.binds.drop k)) (fun (k : Nat) => b.binds.length - k) 0 (upd_intro (mask_intro (by first | exact off_refl | (repeat (first | exact off_mask | refine off_upd rfl ?_ | refine off_mask2 rfl ?_)))) rfl) (lmask_intro offl_refl) ?_ ?_))
  · exact ⟨Nat.zero_le _, rfl⟩
  intro k J4 JL4 H4 hp3 hl4
  obtain ⟨hik1, hik2⟩ := hp3
  refine cw_seq (cw_region (ol rfl (lo_lss rfl rfl) (ow_nil (seqK_n (cw_seq ?_)))))
  refine cw_cond rfl (fun h5 => ?_) (fun h5 => ?_)
  · have p6 := dt h5
    refine cw_skip (seqK_n (cw_seq (cw_block (cw_seq (cw_region ?_)))))
    refine omi rfl rfl (oai rfl rfl (ow_nil (seqK_n (cw_seq (cw_region ?_)))))
    refine ol rfl (lo_move rfl) (ol rfl (lo_move (v := .slice _ _ _) rfl) (omi rfl rfl ?_))
    obtain ⟨c7, hc8⟩ := getE (xs := b.binds) (m := k) (by omega)
    obtain ⟨cs9, hE10, at11⟩ := (b_binds_h.mono ((HLe.refl _).trans hl4) (fun _ _ q => bindRE_mono _ _ _ _ ((HLe.refl _).trans hl4) q)).get hc8
    obtain ⟨a12, c13, rfl, hs14, c7_w⟩ := hE10
    have c7_w' := c7_w
    simp only [BindR.wf] at c7_w'
    refine ol rfl (lo_indexAddr rfl rfl (b_binds_h.mono ((HLe.refl _).trans hl4) (fun _ _ q => bindRE_mono _ _ _ _ ((HLe.refl _).trans hl4) q)).1 at11 Tryz.underlying279 sz58 (by omega) (by omega)) (ol rfl (lo_loadEA rfl ag58 sz58 at11) (ow1 (op1_pr (bind_same _ x x_want_a x_want_c (x_want_h.mono ((HLe.refl _).trans hl4) (fun _ _ h => h)) x_w c7 a12 c13 hs14 c7_w) (en_b rfl cb262 rfl) rfl ?_)))
    refine ow_nil (seqK_n (cw_cond rfl (fun h15 => ?_) (fun h15 => ?_)))
    · have p16 := dt h15
      refine cw_seq (cw_region (omi rfl rfl (oai rfl rfl (ow_nil (seqK_n ?_)))))
      refine cw_ret (blkK_r (seqK_r (loopK_r (blkK_r (seqK_r ?_)))))
      refine fnK_r (res1 rfl (rv_t (v := .int _ _) rfl)) ((HLe.refl _).trans hl4) (oai rfl rfl (ow_nil (seqK_n (cw_ret (fnK_r (res1 rfl (rv_t (v := .int _ _) rfl)) ((HLe.refl _).trans hl4) ?_)))))
      exact congrArg (Value.int .i64) (idx_hit hik2 (dropE hc8) (by first | assumption | (simp [*]; done))).symm
    have p17 := df h15
    refine cw_skip (blkK_n (seqK_n (cw_region (ol rfl (lo_add rfl rfl (rg_i64 (by omega))) (omi rfl rfl ?_)))))
    refine ow_nil ?_
    refine next1 (k + 1) (upd_intro (mask_intro (by first | exact off_refl | (repeat (first | exact off_mask | refine off_upd rfl ?_ | refine off_mask2 rfl ?_)))) rfl) (lmask_intro (by first | exact offl_refl | (repeat (first | exact offl_mask | refine offl_upd rfl ?_ | refine offl_mask2 rfl ?_)))) hl4 ?_ ?_
    · exact ⟨by omega, idx_miss hik2 (dropE hc8) (by first | assumption | (simp [*]; done))⟩
    omega
  have p18 := df h5
  refine cw_exit (seqK_e (loopK_e (blkK_hit (seqK_n (cw_seq ?_)))))
  refine cw_region (oai rfl rfl (ow_nil (seqK_n (cw_ret (fnK_r (res1 rfl (rv_t (v := .int _ _) rfl)) ((HLe.refl _).trans hl4) ?_)))))
  refine oai rfl rfl (ow_nil (seqK_n (cw_ret (fnK_r (res1 rfl (rv_t (v := .int _ _) rfl)) ((HLe.refl _).trans hl4) ?_))))
  exact congrArg (Value.int .i64) (idx_end hik2 (by omega)).symm
end Go.SW
