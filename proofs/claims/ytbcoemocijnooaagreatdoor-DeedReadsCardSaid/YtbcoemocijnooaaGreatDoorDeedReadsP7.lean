/-
  A part of the proof of DeedReads: The walks of this seat, printed by program: deed.read. The walks of this seat, printed by program: stairwellref22.bind. The walks of this seat, printed by program: stairwellref22.read. The walks of this seat, printed by program: deed.Unpack, stairwellref22.Unpack. The walks of this seat, printed by program: stairwelllaw22.DeedReads. From the data that a row's arguments read as to the ground of the walks, and back: a world seen as one that is read alone; integers, texts, bools, structs, slices opened; the row's last step. Over any program; no condition. How long a slice that was handed over can be. Over any program; no condition.
-/
import Derived.Test.YtbcoemocijnooaaGreatDoorProg
import Derived.KernelRfl
import Derived.Test.YtbcoemocijnooaaGreatDoorDeedReadsP6
import Derived.Test.YtbcoemocijnooaaGreatDoorDeedReadsP2
import Derived.Test.YtbcoemocijnooaaGreatDoorDeedReadsP1
import Derived.ProofKit
import Derived.OpenShut
import Derived.Deep.Slices
import Derived.Carry
import Derived.Lib.LaidTab
import Derived.SizedLaws
set_option linter.unusedVariables false
set_option linter.unusedSimpArgs false
set_option linter.unusedVariables false
set_option maxRecDepth 100000
set_option maxHeartbeats 4000000
namespace Go.SW
open Go.Proofs
theorem bd102_0s_1u64_2u64 (a1 : Bs) (a2 : Int) (a3 : Int) (w : World) : (Instr.build 102 #[(0, str a1), (1, .int .u64 a2), (2, .int .u64 a3)]).run Tryz.prog w = .ok (.agg #[str a1, .int .u64 a2, .int .u64 a3, str []]) w := by kernel_rfl
theorem bd104_0s_1s_2b (a1 : Bs) (a2 : Bs) (a3 : Bool) (w : World) : (Instr.build 104 #[(0, str a1), (1, str a2), (2, .bool a3)]).run Tryz.prog w = .ok (.agg #[str a1, str a2, .bool a3, str [], .slice none 0 0, .bool false]) w := by kernel_rfl
theorem cb109 : Callable Tryz.prog 109 := callable_of Tryz.func109 (by kernel_rfl) (by kernel_rfl)
theorem deed_read (H : Hp) (i_b : Nat) (i : In) (hML : GInt H 2) : Pm Tryz.prog 51 #[.pointer (some ⟨i_b, 0, none⟩)] H i_b (bx 169 (In.cells i)) (fun v H' o' => ∃ (a1 : Option Addr) (c1 : Nat) (a2 : Option Addr) (c2 : Nat), v = .agg (DeedR.cells ((readD i).1) a1 c1 a2 c2).toArray ∧ o' = bx 169 (In.cells ((readD i).2)) ∧ SlH pairE 4 H' (.slice a1 (((readD i).1).bind.want).length c1) (((readD i).1).bind.want) ∧ SlH pairE 4 H' (.slice a2 (((readD i).1).mail.head).length c2) (((readD i).1).mail.head)) := by
  refine pm_cw Tryz.func51 rfl Tryz.ntmps51 rfl (fun N => ?_)
  refine cw_seq (cw_region (ow1 (op1_alloc 1 rfl zr106 (fun b1 => ?_))))
  refine ow_nil (seqK_n (cw_seq (cw_region (ol rfl (lo_move (v := .pointer (some ⟨_, _, none⟩)) rfl) ?_))))
  refine ow1 (op1_pm 0 rfl (in_Num _ i_b i 1 (by omega)) (en_f cb49 rfl) rfl ?_)
  rintro _ _ _ ⟨rfl, rfl, rfl⟩ _
  generalize hq5 : inNum i 1 = q2
  have hf6 := inNum_r i 1
  simp only [hq5] at hf6
  refine ol rfl (lo_conv_in rfl (by rw [Tryz.underlying39]; rfl) Tryz.underlying5 (rg_u8 (by omega))) (ol rfl (lo_move (v := .pointer (some ⟨_, _, none⟩)) rfl) ?_)
  refine ow1 (op1_pm 0 rfl (in_Num _ i_b q2.2 8 (by omega)) (en_f cb49 rfl) rfl ?_)
  rintro _ _ _ ⟨rfl, rfl, rfl⟩ _
  generalize hq10 : inNum q2.2 8 = q7
  have hf11 := inNum_r q2.2 8
  simp only [hq10] at hf11
  refine ol rfl (lo_build (v := .agg #[_, _, _, _, _, _, _, _, _, _, _, _, _, _, _, _, _, _, _, _, _, _, _, _, _, _, _, _, _]) rfl (bd106_0u8_1u64 _ _)) (ow1 (op1_alloc 2 rfl zr106 (fun b12 => ?_)))
  refine ow1 (op1_storeAll (i := 2) (vs := [_, _, _, _, _, _, _, _, _, _, _, _, _, _, _, _, _, _, _, _, _, _, _, _, _, _, _, _, _]) rfl rfl rfl sz106 rfl rfl rfl ?_)
  refine ow_nil (seqK_n (cw_seq (cw_seq (cw_region (ol rfl (lo_fieldAddr rfl fl106_0) ?_)))))
  refine ol rfl (lo_load1 (i := 2) (v := .int _ _) rfl ag5 rfl rfl) (ow_nil (seqK_n (cw_block (cw_seq (cw_region ?_)))))
  refine ol rfl (lo_eql rfl rfl) (oab rfl rfl (ow_nil (seqK_n (cw_cond rfl (fun h13 => ?_) (fun h13 => ?_)))))
  · have p14 := dt h13
    refine cw_seq (cw_region (ol rfl (lo_move (v := .pointer (some ⟨_, _, none⟩)) rfl) ?_))
    refine ow1 (op1_pm 0 rfl (in_Text _ i_b q7.2 16 (by omega)) (en_f cb107 rfl) rfl ?_)
    rintro _ _ _ ⟨rfl, rfl, rfl⟩ _
    generalize hq18 : inText q7.2 16 = q15
    have hf19 := inText_len q7.2 16
    simp only [hq18] at hf19
    refine ol rfl (lo_move (v := .pointer (some ⟨_, _, none⟩)) rfl) ?_
    refine ow1 (op1_pm 0 rfl (in_Num _ i_b q15.2 1 (by omega)) (en_f cb49 rfl) rfl ?_)
    rintro _ _ _ ⟨rfl, rfl, rfl⟩ _
    generalize hq23 : inNum q15.2 1 = q20
    have hf24 := inNum_r q15.2 1
    simp only [hq23] at hf24
    refine ol rfl (lo_conv_in rfl (by rw [Tryz.underlying39]; rfl) Tryz.underlying5 (rg_u8 (by omega))) (ol rfl (lo_build (v := .agg #[_, _, _]) rfl (bd100_0s_1u8 _ _)) (ol rfl (lo_fieldAddr rfl fl106_2) ?_))
    refine ow1 (op1_storeAp (i := 2) (vs := [_, _, _]) [_, _, _, _, _, _, _, _, _, _, _, _, _, _, _, _, _, _, _, _, _, _, _, _, _, _, _, _, _] rfl rfl rfl sz100 rfl rfl rfl rfl ?_)
    refine ow_nil (seqK_n (cw_region (ol rfl (lo_move (v := .pointer (some ⟨_, _, none⟩)) rfl) ?_)))
    refine ow1 (op1_pm 0 rfl (in_Text _ i_b q20.2 16 (by omega)) (en_f cb107 rfl) rfl ?_)
    rintro _ _ _ ⟨rfl, rfl, rfl⟩ _
    generalize hq28 : inText q20.2 16 = q25
    have hf29 := inText_len q20.2 16
    simp only [hq28] at hf29
    refine ol rfl (lo_fieldAddr rfl fl106_2) (ol rfl (lo_fieldAddr rfl fl100_2) ?_)
    refine ow1 (op1_store1n (i := 2) (v := str _) [_, _, _, _, _, _, _, _, _, _, _, _, _, _, _, _, _, _, _, _, _, _, _, _, _, _, _, _, _] rfl rfl rfl sz9 rfl rfl rfl ?_)
    refine ow_nil (blkK_n (seqK_n (cw_seq (cw_region (ol rfl (lo_loadA (i := 2) (vs := [_, _, _, _, _, _, _, _, _, _, _, _, _, _, _, _, _, _, _, _, _, _, _, _, _, _, _, _, _]) rfl ag106 sz106 rfl rfl rfl) ?_)))))
    refine ow1 (op1_storeAll (i := 1) (vs := [_, _, _, _, _, _, _, _, _, _, _, _, _, _, _, _, _, _, _, _, _, _, _, _, _, _, _, _, _]) rfl rfl rfl sz106 rfl rfl rfl ?_)
    refine ow_nil (seqK_n (cw_ret (fnK_r (res1 rfl (rv_c (i := 1) (vs := [_, _, _, _, _, _, _, _, _, _, _, _, _, _, _, _, _, _, _, _, _, _, _, _, _, _, _, _, _]) rfl ag106 sz106 rfl rfl rfl)) (.refl _) ?_)))
    refine ⟨_, rfl, ?_⟩
    have e : readD i = ((⟨q2.1, q7.1, (⟨q15.1, q20.1, q25.1⟩ : ShopR), (⟨[], 0, 0, []⟩ : QueueR), (⟨[], [], false, [], [], false⟩ : BindR), [], 0, 0, 0, 0, 0, (⟨0, [], [], [], [], 0, 0⟩ : Mail), []⟩ : DeedR), q25.2) := by unfold readD readK; simp only [DeedR.blank, bindRead]; (repeat first | simp only [hq5, hq10, hq18, hq23, hq28] | rw [if_pos (by omega)] | rw [if_neg (by omega)]); all_goals first | rfl | (simp [*]; done) | (simp [*]; rfl)
    rw [e]
    exact ⟨_, _, _, _, rfl, rfl, slh_nil, slh_nil⟩
  have p30 := df h13
  refine cw_seq (cw_region (ol rfl (lo_eql rfl rfl) (oab rfl rfl (ow_nil (seqK_n ?_)))))
  refine cw_cond rfl (fun h31 => ?_) (fun h31 => ?_)
  · have p32 := dt h31
    refine cw_seq (cw_region (ol rfl (lo_move (v := .pointer (some ⟨_, _, none⟩)) rfl) ?_))
    refine ow1 (op1_pm 0 rfl (in_Text _ i_b q7.2 16 (by omega)) (en_f cb107 rfl) rfl ?_)
    rintro _ _ _ ⟨rfl, rfl, rfl⟩ _
    generalize hq36 : inText q7.2 16 = q33
    have hf37 := inText_len q7.2 16
    simp only [hq36] at hf37
    refine ol rfl (lo_move (v := .pointer (some ⟨_, _, none⟩)) rfl) ?_
    refine ow1 (op1_pm 0 rfl (in_Num _ i_b q33.2 8 (by omega)) (en_f cb49 rfl) rfl ?_)
    rintro _ _ _ ⟨rfl, rfl, rfl⟩ _
    generalize hq41 : inNum q33.2 8 = q38
    have hf42 := inNum_r q33.2 8
    simp only [hq41] at hf42
    refine ol rfl (lo_move (v := .pointer (some ⟨_, _, none⟩)) rfl) ?_
    refine ow1 (op1_pm 0 rfl (in_Num _ i_b q38.2 8 (by omega)) (en_f cb49 rfl) rfl ?_)
    rintro _ _ _ ⟨rfl, rfl, rfl⟩ _
    generalize hq46 : inNum q38.2 8 = q43
    have hf47 := inNum_r q38.2 8
    simp only [hq46] at hf47
    refine ol rfl (lo_build (v := .agg #[_, _, _, _]) rfl (bd102_0s_1u64_2u64 _ _ _)) (ol rfl (lo_fieldAddr rfl fl106_3) ?_)
    refine ow1 (op1_storeAp (i := 2) (vs := [_, _, _, _]) [_, _, _, _, _, _, _, _, _, _, _, _, _, _, _, _, _, _, _, _, _, _, _, _, _, _, _, _, _] rfl rfl rfl sz102 rfl rfl rfl rfl ?_)
    refine ow_nil (seqK_n (cw_region (ol rfl (lo_move (v := .pointer (some ⟨_, _, none⟩)) rfl) ?_)))
    refine ow1 (op1_pm 0 rfl (in_Text _ i_b q43.2 16 (by omega)) (en_f cb107 rfl) rfl ?_)
    rintro _ _ _ ⟨rfl, rfl, rfl⟩ _
    generalize hq51 : inText q43.2 16 = q48
    have hf52 := inText_len q43.2 16
    simp only [hq51] at hf52
    refine ol rfl (lo_fieldAddr rfl fl106_3) (ol rfl (lo_fieldAddr rfl fl102_3) ?_)
    refine ow1 (op1_store1n (i := 2) (v := str _) [_, _, _, _, _, _, _, _, _, _, _, _, _, _, _, _, _, _, _, _, _, _, _, _, _, _, _, _, _] rfl rfl rfl sz9 rfl rfl rfl ?_)
    refine ow_nil (blkK_n (seqK_n (cw_seq (cw_region (ol rfl (lo_loadA (i := 2) (vs := [_, _, _, _, _, _, _, _, _, _, _, _, _, _, _, _, _, _, _, _, _, _, _, _, _, _, _, _, _]) rfl ag106 sz106 rfl rfl rfl) ?_)))))
    refine ow1 (op1_storeAll (i := 1) (vs := [_, _, _, _, _, _, _, _, _, _, _, _, _, _, _, _, _, _, _, _, _, _, _, _, _, _, _, _, _]) rfl rfl rfl sz106 rfl rfl rfl ?_)
    refine ow_nil (seqK_n (cw_ret (fnK_r (res1 rfl (rv_c (i := 1) (vs := [_, _, _, _, _, _, _, _, _, _, _, _, _, _, _, _, _, _, _, _, _, _, _, _, _, _, _, _, _]) rfl ag106 sz106 rfl rfl rfl)) (.refl _) ?_)))
    refine ⟨_, rfl, ?_⟩
    have e : readD i = ((⟨q2.1, q7.1, (⟨[], 0, []⟩ : ShopR), (⟨q33.1, q38.1, q43.1, q48.1⟩ : QueueR), (⟨[], [], false, [], [], false⟩ : BindR), [], 0, 0, 0, 0, 0, (⟨0, [], [], [], [], 0, 0⟩ : Mail), []⟩ : DeedR), q48.2) := by unfold readD readK; simp only [DeedR.blank, bindRead]; (repeat first | simp only [hq5, hq10, hq36, hq41, hq46, hq51] | rw [if_pos (by omega)] | rw [if_neg (by omega)]); all_goals first | rfl | (simp [*]; done) | (simp [*]; rfl)
    rw [e]
    exact ⟨_, _, _, _, rfl, rfl, slh_nil, slh_nil⟩
  have p53 := df h31
  refine cw_seq (cw_seq (cw_region (ol rfl (lo_eql rfl rfl) (oab rfl rfl (ow_nil ?_)))))
  refine seqK_n (cw_cond rfl (fun h54 => ?_) (fun h54 => ?_))
  · have p55 := dt h54
    refine cw_skip (seqK_n (cw_cond_t rfl h54 (cw_seq (cw_region (ol rfl (lo_move (v := .pointer (some ⟨_, _, none⟩)) rfl) ?_)))))
    refine ow1 (op1_pm 0 rfl (in_Text _ i_b q7.2 16 (by omega)) (en_f cb107 rfl) rfl ?_)
    rintro _ _ _ ⟨rfl, rfl, rfl⟩ _
    generalize hq59 : inText q7.2 16 = q56
    have hf60 := inText_len q7.2 16
    simp only [hq59] at hf60
    refine ol rfl (lo_move (v := .pointer (some ⟨_, _, none⟩)) rfl) ?_
    refine ow1 (op1_pm 0 rfl (in_Text _ i_b q56.2 16 (by omega)) (en_f cb107 rfl) rfl ?_)
    rintro _ _ _ ⟨rfl, rfl, rfl⟩ _
    generalize hq64 : inText q56.2 16 = q61
    have hf65 := inText_len q56.2 16
    simp only [hq64] at hf65
    refine ol rfl (lo_move (v := .pointer (some ⟨_, _, none⟩)) rfl) ?_
    refine ow1 (op1_pm 0 rfl (in_Num _ i_b q61.2 1 (by omega)) (en_f cb49 rfl) rfl ?_)
    rintro _ _ _ ⟨rfl, rfl, rfl⟩ _
    generalize hq69 : inNum q61.2 1 = q66
    have hf70 := inNum_r q61.2 1
    simp only [hq69] at hf70
    refine ol rfl (lo_eql rfl rfl) (ol rfl (lo_build (v := .agg #[_, _, _, _, _, _]) rfl (bd104_0s_1s_2b _ _ _)) (ol rfl (lo_fieldAddr rfl fl106_4) ?_))
    refine ow1 (op1_storeAp (i := 2) (vs := [_, _, _, _, _, _]) [_, _, _, _, _, _, _, _, _, _, _, _, _, _, _, _, _, _, _, _, _, _, _, _, _, _, _, _, _] rfl rfl rfl sz104 rfl rfl rfl rfl ?_)
    refine ow_nil (seqK_n (cw_seq (cw_region (ol rfl (lo_move (v := .pointer (some ⟨_, _, none⟩)) rfl) ?_))))
    refine ow1 (op1_pm 0 rfl (in_Text _ i_b q66.2 64 (by omega)) (en_f cb107 rfl) rfl ?_)
    rintro _ _ _ ⟨rfl, rfl, rfl⟩ _
    generalize hq74 : inText q66.2 64 = q71
    have hf75 := inText_len q66.2 64
    simp only [hq74] at hf75
    refine ol rfl (lo_fieldAddr rfl fl106_4) (ol rfl (lo_fieldAddr rfl fl104_3) ?_)
    refine ow1 (op1_store1n (i := 2) (v := str _) [_, _, _, _, _, _, _, _, _, _, _, _, _, _, _, _, _, _, _, _, _, _, _, _, _, _, _, _, _] rfl rfl rfl sz9 rfl rfl rfl ?_)
    refine ow_nil (seqK_n (cw_seq (cw_region (ol rfl (lo_move (v := .pointer (some ⟨_, _, none⟩)) rfl) ?_))))
    refine ow1 (op1_pm 0 rfl (head_Read _ i_b q71.2) (en_f cb108 rfl) rfl ?_)
    rintro _ H81 _ ⟨a77, c78, rfl, rfl, hs79⟩ hl80
    generalize hq82 : headRead q71.2 = q76
    simp only [hq82] at hs79
    have hf83 := headRead_len q71.2
    simp only [hq82] at hf83
    refine ol rfl (lo_fieldAddr rfl fl106_4) (ol rfl (lo_fieldAddr rfl fl104_4) ?_)
    refine ow1 (op1_store1n (i := 2) (v := .slice _ _ _) [_, _, _, _, _, _, _, _, _, _, _, _, _, _, _, _, _, _, _, _, _, _, _, _, _, _, _, _, _] rfl rfl rfl sz40 rfl rfl rfl ?_)
    refine ow_nil (seqK_n (cw_region (ol rfl (lo_move (v := .pointer (some ⟨_, _, none⟩)) rfl) ?_)))
    refine ow1 (op1_pm 0 rfl (in_Num _ i_b q76.2 1 (by omega)) (en_f cb49 rfl) rfl ?_)
    rintro _ _ _ ⟨rfl, rfl, rfl⟩ _
    generalize hq87 : inNum q76.2 1 = q84
    have hf88 := inNum_r q76.2 1
    simp only [hq87] at hf88
    refine ol rfl (lo_eql rfl rfl) (ol rfl (lo_fieldAddr rfl fl106_4) (ol rfl (lo_fieldAddr rfl fl104_5) ?_))
    refine ow1 (op1_store1n (i := 2) (v := .bool _) [_, _, _, _, _, _, _, _, _, _, _, _, _, _, _, _, _, _, _, _, _, _, _, _, _, _, _, _, _] rfl rfl rfl sz4 rfl rfl rfl ?_)
    refine ow_nil (blkK_n (seqK_n (cw_seq (cw_region (ol rfl (lo_loadA (i := 2) (vs := [_, _, _, _, _, _, _, _, _, _, _, _, _, _, _, _, _, _, _, _, _, _, _, _, _, _, _, _, _]) rfl ag106 sz106 rfl rfl rfl) ?_)))))
    refine ow1 (op1_storeAll (i := 1) (vs := [_, _, _, _, _, _, _, _, _, _, _, _, _, _, _, _, _, _, _, _, _, _, _, _, _, _, _, _, _]) rfl rfl rfl sz106 rfl rfl rfl ?_)
    refine ow_nil (seqK_n (cw_ret (fnK_r (res1 rfl (rv_c (i := 1) (vs := [_, _, _, _, _, _, _, _, _, _, _, _, _, _, _, _, _, _, _, _, _, _, _, _, _, _, _, _, _]) rfl ag106 sz106 rfl rfl rfl)) ((HLe.refl _).trans hl80) ?_)))
    refine ⟨_, rfl, ?_⟩
    have e : readD i = ((⟨q2.1, q7.1, (⟨[], 0, []⟩ : ShopR), (⟨[], 0, 0, []⟩ : QueueR), (⟨q56.1, q61.1, decide (q66.1 = 1), q71.1, q76.1, decide (q84.1 = 1)⟩ : BindR), [], 0, 0, 0, 0, 0, (⟨0, [], [], [], [], 0, 0⟩ : Mail), []⟩ : DeedR), q84.2) := by unfold readD readK; simp only [DeedR.blank, bindRead]; (repeat first | simp only [hq5, hq10, hq59, hq64, hq69, hq74, hq82, hq87] | rw [if_pos (by omega)] | rw [if_neg (by omega)]); all_goals first | rfl | (simp [*]; done) | (simp [*]; rfl)
    rw [e]
    exact ⟨_, _, _, _, rfl, rfl, hs79, slh_nil⟩
  have p89 := df h54
  refine cw_region (ol rfl (lo_eql rfl rfl) (oab rfl rfl (ow_nil (seqK_n (cw_cond rfl (fun h90 => ?_) (fun h90 => ?_))))))
  · have p91 := dt h90
    refine cw_seq (cw_region (ol rfl (lo_move (v := .pointer (some ⟨_, _, none⟩)) rfl) ?_))
    refine ow1 (op1_pm 0 rfl (in_Text _ i_b q7.2 16 (by omega)) (en_f cb107 rfl) rfl ?_)
    rintro _ _ _ ⟨rfl, rfl, rfl⟩ _
    generalize hq95 : inText q7.2 16 = q92
    have hf96 := inText_len q7.2 16
    simp only [hq95] at hf96
    refine ol rfl (lo_move (v := .pointer (some ⟨_, _, none⟩)) rfl) ?_
    refine ow1 (op1_pm 0 rfl (in_Text _ i_b q92.2 16 (by omega)) (en_f cb107 rfl) rfl ?_)
    rintro _ _ _ ⟨rfl, rfl, rfl⟩ _
    generalize hq100 : inText q92.2 16 = q97
    have hf101 := inText_len q92.2 16
    simp only [hq100] at hf101
    refine ol rfl (lo_move (v := .pointer (some ⟨_, _, none⟩)) rfl) ?_
    refine ow1 (op1_pm 0 rfl (in_Num _ i_b q97.2 1 (by omega)) (en_f cb49 rfl) rfl ?_)
    rintro _ _ _ ⟨rfl, rfl, rfl⟩ _
    generalize hq105 : inNum q97.2 1 = q102
    have hf106 := inNum_r q97.2 1
    simp only [hq105] at hf106
    refine ol rfl (lo_eql rfl rfl) (ol rfl (lo_build (v := .agg #[_, _, _, _, _, _]) rfl (bd104_0s_1s_2b _ _ _)) (ol rfl (lo_fieldAddr rfl fl106_4) ?_))
    refine ow1 (op1_storeAp (i := 2) (vs := [_, _, _, _, _, _]) [_, _, _, _, _, _, _, _, _, _, _, _, _, _, _, _, _, _, _, _, _, _, _, _, _, _, _, _, _] rfl rfl rfl sz104 rfl rfl rfl rfl ?_)
    refine ow_nil (seqK_n (cw_seq (cw_region (ol rfl (lo_move (v := .pointer (some ⟨_, _, none⟩)) rfl) ?_))))
    refine ow1 (op1_pm 0 rfl (in_Text _ i_b q102.2 64 (by omega)) (en_f cb107 rfl) rfl ?_)
    rintro _ _ _ ⟨rfl, rfl, rfl⟩ _
    generalize hq110 : inText q102.2 64 = q107
    have hf111 := inText_len q102.2 64
    simp only [hq110] at hf111
    refine ol rfl (lo_fieldAddr rfl fl106_4) (ol rfl (lo_fieldAddr rfl fl104_3) ?_)
    refine ow1 (op1_store1n (i := 2) (v := str _) [_, _, _, _, _, _, _, _, _, _, _, _, _, _, _, _, _, _, _, _, _, _, _, _, _, _, _, _, _] rfl rfl rfl sz9 rfl rfl rfl ?_)
    refine ow_nil (seqK_n (cw_seq (cw_region (ol rfl (lo_move (v := .pointer (some ⟨_, _, none⟩)) rfl) ?_))))
    refine ow1 (op1_pm 0 rfl (head_Read _ i_b q107.2) (en_f cb108 rfl) rfl ?_)
    rintro _ H117 _ ⟨a113, c114, rfl, rfl, hs115⟩ hl116
    generalize hq118 : headRead q107.2 = q112
    simp only [hq118] at hs115
    have hf119 := headRead_len q107.2
    simp only [hq118] at hf119
    refine ol rfl (lo_fieldAddr rfl fl106_4) (ol rfl (lo_fieldAddr rfl fl104_4) ?_)
    refine ow1 (op1_store1n (i := 2) (v := .slice _ _ _) [_, _, _, _, _, _, _, _, _, _, _, _, _, _, _, _, _, _, _, _, _, _, _, _, _, _, _, _, _] rfl rfl rfl sz40 rfl rfl rfl ?_)
    refine ow_nil (seqK_n (cw_region (ol rfl (lo_move (v := .pointer (some ⟨_, _, none⟩)) rfl) ?_)))
    refine ow1 (op1_pm 0 rfl (in_Num _ i_b q112.2 1 (by omega)) (en_f cb49 rfl) rfl ?_)
    rintro _ _ _ ⟨rfl, rfl, rfl⟩ _
    generalize hq123 : inNum q112.2 1 = q120
    have hf124 := inNum_r q112.2 1
    simp only [hq123] at hf124
    refine ol rfl (lo_eql rfl rfl) (ol rfl (lo_fieldAddr rfl fl106_4) (ol rfl (lo_fieldAddr rfl fl104_5) ?_))
    refine ow1 (op1_store1n (i := 2) (v := .bool _) [_, _, _, _, _, _, _, _, _, _, _, _, _, _, _, _, _, _, _, _, _, _, _, _, _, _, _, _, _] rfl rfl rfl sz4 rfl rfl rfl ?_)
    refine ow_nil (blkK_n (seqK_n (cw_seq (cw_region (ol rfl (lo_loadA (i := 2) (vs := [_, _, _, _, _, _, _, _, _, _, _, _, _, _, _, _, _, _, _, _, _, _, _, _, _, _, _, _, _]) rfl ag106 sz106 rfl rfl rfl) ?_)))))
    refine ow1 (op1_storeAll (i := 1) (vs := [_, _, _, _, _, _, _, _, _, _, _, _, _, _, _, _, _, _, _, _, _, _, _, _, _, _, _, _, _]) rfl rfl rfl sz106 rfl rfl rfl ?_)
    refine ow_nil (seqK_n (cw_ret (fnK_r (res1 rfl (rv_c (i := 1) (vs := [_, _, _, _, _, _, _, _, _, _, _, _, _, _, _, _, _, _, _, _, _, _, _, _, _, _, _, _, _]) rfl ag106 sz106 rfl rfl rfl)) ((HLe.refl _).trans hl116) ?_)))
    refine ⟨_, rfl, ?_⟩
    have e : readD i = ((⟨q2.1, q7.1, (⟨[], 0, []⟩ : ShopR), (⟨[], 0, 0, []⟩ : QueueR), (⟨q92.1, q97.1, decide (q102.1 = 1), q107.1, q112.1, decide (q120.1 = 1)⟩ : BindR), [], 0, 0, 0, 0, 0, (⟨0, [], [], [], [], 0, 0⟩ : Mail), []⟩ : DeedR), q120.2) := by unfold readD readK; simp only [DeedR.blank, bindRead]; (repeat first | simp only [hq5, hq10, hq95, hq100, hq105, hq110, hq118, hq123] | rw [if_pos (by omega)] | rw [if_neg (by omega)]); all_goals first | rfl | (simp [*]; done) | (simp [*]; rfl)
    rw [e]
    exact ⟨_, _, _, _, rfl, rfl, hs115, slh_nil⟩
  have p125 := df h90
  refine cw_seq (cw_region (ol rfl (lo_eql rfl rfl) (oab rfl rfl (ow_nil (seqK_n ?_)))))
  refine cw_cond rfl (fun h126 => ?_) (fun h126 => ?_)
  · have p127 := dt h126
    refine cw_region (ol rfl (lo_move (v := .pointer (some ⟨_, _, none⟩)) rfl) ?_)
    refine ow1 (op1_pm 0 rfl (mail_Read _ i_b q7.2 hML) (en_f cb109 rfl) rfl ?_)
    rintro _ H133 _ ⟨a129, c130, rfl, rfl, hs131⟩ hl132
    generalize hq134 : mailRead q7.2 = q128
    simp only [hq134] at hs131
    have hf135 := mailRead_wf q7.2
    simp only [hq134] at hf135
    refine ol rfl (lo_fieldAddr rfl fl106_11) ?_
    refine ow1 (op1_storeAp (i := 2) (vs := [_, _, _, _, _, _, _]) [_, _, _, _, _, _, _, _, _, _, _, _, _, _, _, _, _, _, _, _, _, _, _, _, _, _, _, _, _] rfl rfl rfl sz42 rfl rfl rfl rfl ?_)
    refine ow_nil (blkK_n (seqK_n (cw_seq (cw_region (ol rfl (lo_loadA (i := 2) (vs := [_, _, _, _, _, _, _, _, _, _, _, _, _, _, _, _, _, _, _, _, _, _, _, _, _, _, _, _, _]) rfl ag106 sz106 rfl rfl rfl) ?_)))))
    refine ow1 (op1_storeAll (i := 1) (vs := [_, _, _, _, _, _, _, _, _, _, _, _, _, _, _, _, _, _, _, _, _, _, _, _, _, _, _, _, _]) rfl rfl rfl sz106 rfl rfl rfl ?_)
    refine ow_nil (seqK_n (cw_ret (fnK_r (res1 rfl (rv_c (i := 1) (vs := [_, _, _, _, _, _, _, _, _, _, _, _, _, _, _, _, _, _, _, _, _, _, _, _, _, _, _, _, _]) rfl ag106 sz106 rfl rfl rfl)) ((HLe.refl _).trans hl132) ?_)))
    refine ⟨_, rfl, ?_⟩
    have e : readD i = ((⟨q2.1, q7.1, (⟨[], 0, []⟩ : ShopR), (⟨[], 0, 0, []⟩ : QueueR), (⟨[], [], false, [], [], false⟩ : BindR), [], 0, 0, 0, 0, 0, q128.1, []⟩ : DeedR), q128.2) := by unfold readD readK; simp only [DeedR.blank, bindRead]; (repeat first | simp only [hq5, hq10, hq134] | rw [if_pos (by omega)] | rw [if_neg (by omega)]); all_goals first | rfl | (simp [*]; done) | (simp [*]; rfl)
    rw [e]
    exact ⟨_, _, _, _, rfl, rfl, slh_nil, hs131⟩
  have p136 := df h126
  refine cw_seq (cw_seq (cw_region (ol rfl (lo_eql rfl rfl) (oab rfl rfl (ow_nil ?_)))))
  refine seqK_n (cw_cond rfl (fun h137 => ?_) (fun h137 => ?_))
  · have p138 := dt h137
    refine cw_skip (seqK_n (cw_cond_t rfl h137 (cw_region (ol rfl (lo_move (v := .pointer (some ⟨_, _, none⟩)) rfl) ?_))))
    refine ow1 (op1_pm 0 rfl (in_Text _ i_b q7.2 16 (by omega)) (en_f cb107 rfl) rfl ?_)
    rintro _ _ _ ⟨rfl, rfl, rfl⟩ _
    generalize hq142 : inText q7.2 16 = q139
    have hf143 := inText_len q7.2 16
    simp only [hq142] at hf143
    refine ol rfl (lo_fieldAddr rfl fl106_5) ?_
    refine ow1 (op1_store1n (i := 2) (v := str _) [_, _, _, _, _, _, _, _, _, _, _, _, _, _, _, _, _, _, _, _, _, _, _, _, _, _, _, _, _] rfl rfl rfl sz9 rfl rfl rfl ?_)
    refine ow_nil (blkK_n (seqK_n (cw_seq (cw_region (ol rfl (lo_loadA (i := 2) (vs := [_, _, _, _, _, _, _, _, _, _, _, _, _, _, _, _, _, _, _, _, _, _, _, _, _, _, _, _, _]) rfl ag106 sz106 rfl rfl rfl) ?_)))))
    refine ow1 (op1_storeAll (i := 1) (vs := [_, _, _, _, _, _, _, _, _, _, _, _, _, _, _, _, _, _, _, _, _, _, _, _, _, _, _, _, _]) rfl rfl rfl sz106 rfl rfl rfl ?_)
    refine ow_nil (seqK_n (cw_ret (fnK_r (res1 rfl (rv_c (i := 1) (vs := [_, _, _, _, _, _, _, _, _, _, _, _, _, _, _, _, _, _, _, _, _, _, _, _, _, _, _, _, _]) rfl ag106 sz106 rfl rfl rfl)) (.refl _) ?_)))
    refine ⟨_, rfl, ?_⟩
    have e : readD i = ((⟨q2.1, q7.1, (⟨[], 0, []⟩ : ShopR), (⟨[], 0, 0, []⟩ : QueueR), (⟨[], [], false, [], [], false⟩ : BindR), q139.1, 0, 0, 0, 0, 0, (⟨0, [], [], [], [], 0, 0⟩ : Mail), []⟩ : DeedR), q139.2) := by unfold readD readK; simp only [DeedR.blank, bindRead]; (repeat first | simp only [hq5, hq10, hq142] | rw [if_pos (by omega)] | rw [if_neg (by omega)]); all_goals first | rfl | (simp [*]; done) | (simp [*]; rfl)
    rw [e]
    exact ⟨_, _, _, _, rfl, rfl, slh_nil, slh_nil⟩
  have p144 := df h137
  refine cw_seq (cw_region (ol rfl (lo_eql rfl rfl) (oab rfl rfl (ow_nil (seqK_n ?_)))))
  refine cw_cond rfl (fun h145 => ?_) (fun h145 => ?_)
  · have p146 := dt h145
    refine cw_skip (seqK_n (cw_cond_t rfl h145 (cw_region (ol rfl (lo_move (v := .pointer (some ⟨_, _, none⟩)) rfl) ?_))))
    refine ow1 (op1_pm 0 rfl (in_Text _ i_b q7.2 16 (by omega)) (en_f cb107 rfl) rfl ?_)
    rintro _ _ _ ⟨rfl, rfl, rfl⟩ _
    generalize hq150 : inText q7.2 16 = q147
    have hf151 := inText_len q7.2 16
    simp only [hq150] at hf151
    refine ol rfl (lo_fieldAddr rfl fl106_5) ?_
    refine ow1 (op1_store1n (i := 2) (v := str _) [_, _, _, _, _, _, _, _, _, _, _, _, _, _, _, _, _, _, _, _, _, _, _, _, _, _, _, _, _] rfl rfl rfl sz9 rfl rfl rfl ?_)
    refine ow_nil (blkK_n (seqK_n (cw_seq (cw_region (ol rfl (lo_loadA (i := 2) (vs := [_, _, _, _, _, _, _, _, _, _, _, _, _, _, _, _, _, _, _, _, _, _, _, _, _, _, _, _, _]) rfl ag106 sz106 rfl rfl rfl) ?_)))))
    refine ow1 (op1_storeAll (i := 1) (vs := [_, _, _, _, _, _, _, _, _, _, _, _, _, _, _, _, _, _, _, _, _, _, _, _, _, _, _, _, _]) rfl rfl rfl sz106 rfl rfl rfl ?_)
    refine ow_nil (seqK_n (cw_ret (fnK_r (res1 rfl (rv_c (i := 1) (vs := [_, _, _, _, _, _, _, _, _, _, _, _, _, _, _, _, _, _, _, _, _, _, _, _, _, _, _, _, _]) rfl ag106 sz106 rfl rfl rfl)) (.refl _) ?_)))
    refine ⟨_, rfl, ?_⟩
    have e : readD i = ((⟨q2.1, q7.1, (⟨[], 0, []⟩ : ShopR), (⟨[], 0, 0, []⟩ : QueueR), (⟨[], [], false, [], [], false⟩ : BindR), q147.1, 0, 0, 0, 0, 0, (⟨0, [], [], [], [], 0, 0⟩ : Mail), []⟩ : DeedR), q147.2) := by unfold readD readK; simp only [DeedR.blank, bindRead]; (repeat first | simp only [hq5, hq10, hq150] | rw [if_pos (by omega)] | rw [if_neg (by omega)]); all_goals first | rfl | (simp [*]; done) | (simp [*]; rfl)
    rw [e]
    exact ⟨_, _, _, _, rfl, rfl, slh_nil, slh_nil⟩
  have p152 := df h145
  refine cw_region (ol rfl (lo_eql rfl rfl) (oab rfl rfl (ow_nil (seqK_n (cw_cond rfl (fun h153 => ?_) (fun h153 => ?_))))))
  · have p154 := dt h153
    refine cw_region (ol rfl (lo_move (v := .pointer (some ⟨_, _, none⟩)) rfl) ?_)
    refine ow1 (op1_pm 0 rfl (in_Text _ i_b q7.2 16 (by omega)) (en_f cb107 rfl) rfl ?_)
    rintro _ _ _ ⟨rfl, rfl, rfl⟩ _
    generalize hq158 : inText q7.2 16 = q155
    have hf159 := inText_len q7.2 16
    simp only [hq158] at hf159
    refine ol rfl (lo_fieldAddr rfl fl106_5) ?_
    refine ow1 (op1_store1n (i := 2) (v := str _) [_, _, _, _, _, _, _, _, _, _, _, _, _, _, _, _, _, _, _, _, _, _, _, _, _, _, _, _, _] rfl rfl rfl sz9 rfl rfl rfl ?_)
    refine ow_nil (blkK_n (seqK_n (cw_seq (cw_region (ol rfl (lo_loadA (i := 2) (vs := [_, _, _, _, _, _, _, _, _, _, _, _, _, _, _, _, _, _, _, _, _, _, _, _, _, _, _, _, _]) rfl ag106 sz106 rfl rfl rfl) ?_)))))
    refine ow1 (op1_storeAll (i := 1) (vs := [_, _, _, _, _, _, _, _, _, _, _, _, _, _, _, _, _, _, _, _, _, _, _, _, _, _, _, _, _]) rfl rfl rfl sz106 rfl rfl rfl ?_)
    refine ow_nil (seqK_n (cw_ret (fnK_r (res1 rfl (rv_c (i := 1) (vs := [_, _, _, _, _, _, _, _, _, _, _, _, _, _, _, _, _, _, _, _, _, _, _, _, _, _, _, _, _]) rfl ag106 sz106 rfl rfl rfl)) (.refl _) ?_)))
    refine ⟨_, rfl, ?_⟩
    have e : readD i = ((⟨q2.1, q7.1, (⟨[], 0, []⟩ : ShopR), (⟨[], 0, 0, []⟩ : QueueR), (⟨[], [], false, [], [], false⟩ : BindR), q155.1, 0, 0, 0, 0, 0, (⟨0, [], [], [], [], 0, 0⟩ : Mail), []⟩ : DeedR), q155.2) := by unfold readD readK; simp only [DeedR.blank, bindRead]; (repeat first | simp only [hq5, hq10, hq158] | rw [if_pos (by omega)] | rw [if_neg (by omega)]); all_goals first | rfl | (simp [*]; done) | (simp [*]; rfl)
    rw [e]
    exact ⟨_, _, _, _, rfl, rfl, slh_nil, slh_nil⟩
  have p160 := df h153
  refine cw_seq (cw_region (ol rfl (lo_eql rfl rfl) (oab rfl rfl (ow_nil (seqK_n ?_)))))
  refine cw_cond rfl (fun h161 => ?_) (fun h161 => ?_)
  · have p162 := dt h161
    refine cw_region (ol rfl (lo_move (v := .pointer (some ⟨_, _, none⟩)) rfl) ?_)
    refine ow1 (op1_pm 0 rfl (in_Text _ i_b q7.2 16 (by omega)) (en_f cb107 rfl) rfl ?_)
    rintro _ _ _ ⟨rfl, rfl, rfl⟩ _
    generalize hq166 : inText q7.2 16 = q163
    have hf167 := inText_len q7.2 16
    simp only [hq166] at hf167
    refine ol rfl (lo_move (v := .pointer (some ⟨_, _, none⟩)) rfl) ?_
    refine ow1 (op1_pm 0 rfl (in_Num _ i_b q163.2 8 (by omega)) (en_f cb49 rfl) rfl ?_)
    rintro _ _ _ ⟨rfl, rfl, rfl⟩ _
    generalize hq171 : inNum q163.2 8 = q168
    have hf172 := inNum_r q163.2 8
    simp only [hq171] at hf172
    refine ol rfl (lo_move (v := .pointer (some ⟨_, _, none⟩)) rfl) ?_
    refine ow1 (op1_pm 0 rfl (in_Num _ i_b q168.2 1 (by omega)) (en_f cb49 rfl) rfl ?_)
    rintro _ _ _ ⟨rfl, rfl, rfl⟩ _
    generalize hq176 : inNum q168.2 1 = q173
    have hf177 := inNum_r q168.2 1
    simp only [hq176] at hf177
    refine ol rfl (lo_conv_in rfl (by rw [Tryz.underlying39]; rfl) Tryz.underlying5 (rg_u8 (by omega))) (ol rfl (lo_fieldAddr rfl fl106_5) ?_)
    refine ow1 (op1_store1n (i := 2) (v := str _) [_, _, _, _, _, _, _, _, _, _, _, _, _, _, _, _, _, _, _, _, _, _, _, _, _, _, _, _, _] rfl rfl rfl sz9 rfl rfl rfl ?_)
    refine ol rfl (lo_fieldAddr rfl fl106_6) ?_
    refine ow1 (op1_store1n (i := 2) (v := .int _ _) [_, _, _, _, _, _, _, _, _, _, _, _, _, _, _, _, _, _, _, _, _, _, _, _, _, _, _, _, _] rfl rfl rfl sz39 rfl rfl rfl ?_)
    refine ol rfl (lo_fieldAddr rfl fl106_7) ?_
    refine ow1 (op1_store1n (i := 2) (v := .int _ _) [_, _, _, _, _, _, _, _, _, _, _, _, _, _, _, _, _, _, _, _, _, _, _, _, _, _, _, _, _] rfl rfl rfl sz5 rfl rfl rfl ?_)
    refine ow_nil (blkK_n (seqK_n (cw_seq (cw_region (ol rfl (lo_loadA (i := 2) (vs := [_, _, _, _, _, _, _, _, _, _, _, _, _, _, _, _, _, _, _, _, _, _, _, _, _, _, _, _, _]) rfl ag106 sz106 rfl rfl rfl) ?_)))))
    refine ow1 (op1_storeAll (i := 1) (vs := [_, _, _, _, _, _, _, _, _, _, _, _, _, _, _, _, _, _, _, _, _, _, _, _, _, _, _, _, _]) rfl rfl rfl sz106 rfl rfl rfl ?_)
    refine ow_nil (seqK_n (cw_ret (fnK_r (res1 rfl (rv_c (i := 1) (vs := [_, _, _, _, _, _, _, _, _, _, _, _, _, _, _, _, _, _, _, _, _, _, _, _, _, _, _, _, _]) rfl ag106 sz106 rfl rfl rfl)) (.refl _) ?_)))
    refine ⟨_, rfl, ?_⟩
    have e : readD i = ((⟨q2.1, q7.1, (⟨[], 0, []⟩ : ShopR), (⟨[], 0, 0, []⟩ : QueueR), (⟨[], [], false, [], [], false⟩ : BindR), q163.1, q168.1, q173.1, 0, 0, 0, (⟨0, [], [], [], [], 0, 0⟩ : Mail), []⟩ : DeedR), q173.2) := by unfold readD readK; simp only [DeedR.blank, bindRead]; (repeat first | simp only [hq5, hq10, hq166, hq171, hq176] | rw [if_pos (by omega)] | rw [if_neg (by omega)]); all_goals first | rfl | (simp [*]; done) | (simp [*]; rfl)
    rw [e]
    exact ⟨_, _, _, _, rfl, rfl, slh_nil, slh_nil⟩
  have p178 := df h161
  refine cw_seq (cw_region (ol rfl (lo_eql rfl rfl) (oab rfl rfl (ow_nil (seqK_n ?_)))))
  refine cw_cond rfl (fun h179 => ?_) (fun h179 => ?_)
  · have p180 := dt h179
    refine cw_region (ol rfl (lo_move (v := .pointer (some ⟨_, _, none⟩)) rfl) ?_)
    refine ow1 (op1_pm 0 rfl (in_Num _ i_b q7.2 1 (by omega)) (en_f cb49 rfl) rfl ?_)
    rintro _ _ _ ⟨rfl, rfl, rfl⟩ _
    generalize hq184 : inNum q7.2 1 = q181
    have hf185 := inNum_r q7.2 1
    simp only [hq184] at hf185
    refine ol rfl (lo_conv_in rfl (by rw [Tryz.underlying39]; rfl) Tryz.underlying5 (rg_u8 (by omega))) (ol rfl (lo_move (v := .pointer (some ⟨_, _, none⟩)) rfl) ?_)
    refine ow1 (op1_pm 0 rfl (in_Num _ i_b q181.2 8 (by omega)) (en_f cb49 rfl) rfl ?_)
    rintro _ _ _ ⟨rfl, rfl, rfl⟩ _
    generalize hq189 : inNum q181.2 8 = q186
    have hf190 := inNum_r q181.2 8
    simp only [hq189] at hf190
    refine ol rfl (lo_move (v := .pointer (some ⟨_, _, none⟩)) rfl) ?_
    refine ow1 (op1_pm 0 rfl (mail_Read _ i_b q186.2 hML) (en_f cb109 rfl) rfl ?_)
    rintro _ H196 _ ⟨a192, c193, rfl, rfl, hs194⟩ hl195
    generalize hq197 : mailRead q186.2 = q191
    simp only [hq197] at hs194
    have hf198 := mailRead_wf q186.2
    simp only [hq197] at hf198
    refine ol rfl (lo_fieldAddr rfl fl106_8) ?_
    refine ow1 (op1_store1n (i := 2) (v := .int _ _) [_, _, _, _, _, _, _, _, _, _, _, _, _, _, _, _, _, _, _, _, _, _, _, _, _, _, _, _, _] rfl rfl rfl sz5 rfl rfl rfl ?_)
    refine ol rfl (lo_fieldAddr rfl fl106_10) ?_
    refine ow1 (op1_store1n (i := 2) (v := .int _ _) [_, _, _, _, _, _, _, _, _, _, _, _, _, _, _, _, _, _, _, _, _, _, _, _, _, _, _, _, _] rfl rfl rfl sz39 rfl rfl rfl ?_)
    refine ol rfl (lo_fieldAddr rfl fl106_11) ?_
    refine ow1 (op1_storeAp (i := 2) (vs := [_, _, _, _, _, _, _]) [_, _, _, _, _, _, _, _, _, _, _, _, _, _, _, _, _, _, _, _, _, _, _, _, _, _, _, _, _] rfl rfl rfl sz42 rfl rfl rfl rfl ?_)
    refine ow_nil (blkK_n (seqK_n (cw_seq (cw_region (ol rfl (lo_loadA (i := 2) (vs := [_, _, _, _, _, _, _, _, _, _, _, _, _, _, _, _, _, _, _, _, _, _, _, _, _, _, _, _, _]) rfl ag106 sz106 rfl rfl rfl) ?_)))))
    refine ow1 (op1_storeAll (i := 1) (vs := [_, _, _, _, _, _, _, _, _, _, _, _, _, _, _, _, _, _, _, _, _, _, _, _, _, _, _, _, _]) rfl rfl rfl sz106 rfl rfl rfl ?_)
    refine ow_nil (seqK_n (cw_ret (fnK_r (res1 rfl (rv_c (i := 1) (vs := [_, _, _, _, _, _, _, _, _, _, _, _, _, _, _, _, _, _, _, _, _, _, _, _, _, _, _, _, _]) rfl ag106 sz106 rfl rfl rfl)) ((HLe.refl _).trans hl195) ?_)))
    refine ⟨_, rfl, ?_⟩
    have e : readD i = ((⟨q2.1, q7.1, (⟨[], 0, []⟩ : ShopR), (⟨[], 0, 0, []⟩ : QueueR), (⟨[], [], false, [], [], false⟩ : BindR), [], 0, 0, q181.1, 0, q186.1, q191.1, []⟩ : DeedR), q191.2) := by unfold readD readK; simp only [DeedR.blank, bindRead]; (repeat first | simp only [hq5, hq10, hq184, hq189, hq197] | rw [if_pos (by omega)] | rw [if_neg (by omega)]); all_goals first | rfl | (simp [*]; done) | (simp [*]; rfl)
    rw [e]
    exact ⟨_, _, _, _, rfl, rfl, slh_nil, hs194⟩
  have p199 := df h179
  refine cw_seq (cw_region (ol rfl (lo_eql rfl rfl) (oab rfl rfl (ow_nil (seqK_n ?_)))))
  refine cw_cond rfl (fun h200 => ?_) (fun h200 => ?_)
  · have p201 := dt h200
    refine cw_region (ol rfl (lo_move (v := .pointer (some ⟨_, _, none⟩)) rfl) ?_)
    refine ow1 (op1_pm 0 rfl (in_Num _ i_b q7.2 1 (by omega)) (en_f cb49 rfl) rfl ?_)
    rintro _ _ _ ⟨rfl, rfl, rfl⟩ _
    generalize hq205 : inNum q7.2 1 = q202
    have hf206 := inNum_r q7.2 1
    simp only [hq205] at hf206
    refine ol rfl (lo_conv_in rfl (by rw [Tryz.underlying39]; rfl) Tryz.underlying5 (rg_u8 (by omega))) (ol rfl (lo_move (v := .pointer (some ⟨_, _, none⟩)) rfl) ?_)
    refine ow1 (op1_pm 0 rfl (in_Text _ i_b q202.2 64 (by omega)) (en_f cb107 rfl) rfl ?_)
    rintro _ _ _ ⟨rfl, rfl, rfl⟩ _
    generalize hq210 : inText q202.2 64 = q207
    have hf211 := inText_len q202.2 64
    simp only [hq210] at hf211
    refine ol rfl (lo_fieldAddr rfl fl106_9) ?_
    refine ow1 (op1_store1n (i := 2) (v := .int _ _) [_, _, _, _, _, _, _, _, _, _, _, _, _, _, _, _, _, _, _, _, _, _, _, _, _, _, _, _, _] rfl rfl rfl sz5 rfl rfl rfl ?_)
    refine ol rfl (lo_fieldAddr rfl fl106_12) ?_
    refine ow1 (op1_store1n (i := 2) (v := str _) [_, _, _, _, _, _, _, _, _, _, _, _, _, _, _, _, _, _, _, _, _, _, _, _, _, _, _, _, _] rfl rfl rfl sz9 rfl rfl rfl ?_)
    refine ow_nil (blkK_n (seqK_n (cw_seq (cw_region (ol rfl (lo_loadA (i := 2) (vs := [_, _, _, _, _, _, _, _, _, _, _, _, _, _, _, _, _, _, _, _, _, _, _, _, _, _, _, _, _]) rfl ag106 sz106 rfl rfl rfl) ?_)))))
    refine ow1 (op1_storeAll (i := 1) (vs := [_, _, _, _, _, _, _, _, _, _, _, _, _, _, _, _, _, _, _, _, _, _, _, _, _, _, _, _, _]) rfl rfl rfl sz106 rfl rfl rfl ?_)
    refine ow_nil (seqK_n (cw_ret (fnK_r (res1 rfl (rv_c (i := 1) (vs := [_, _, _, _, _, _, _, _, _, _, _, _, _, _, _, _, _, _, _, _, _, _, _, _, _, _, _, _, _]) rfl ag106 sz106 rfl rfl rfl)) (.refl _) ?_)))
    refine ⟨_, rfl, ?_⟩
    have e : readD i = ((⟨q2.1, q7.1, (⟨[], 0, []⟩ : ShopR), (⟨[], 0, 0, []⟩ : QueueR), (⟨[], [], false, [], [], false⟩ : BindR), [], 0, 0, 0, q202.1, 0, (⟨0, [], [], [], [], 0, 0⟩ : Mail), q207.1⟩ : DeedR), q207.2) := by unfold readD readK; simp only [DeedR.blank, bindRead]; (repeat first | simp only [hq5, hq10, hq205, hq210] | rw [if_pos (by omega)] | rw [if_neg (by omega)]); all_goals first | rfl | (simp [*]; done) | (simp [*]; rfl)
    rw [e]
    exact ⟨_, _, _, _, rfl, rfl, slh_nil, slh_nil⟩
  have p212 := df h200
  refine cw_skip (blkK_n (seqK_n (cw_seq (cw_region (ol rfl (lo_loadA (i := 2) (vs := [_, _, _, _, _, _, _, _, _, _, _, _, _, _, _, _, _, _, _, _, _, _, _, _, _, _, _, _, _]) rfl ag106 sz106 rfl rfl rfl) ?_)))))
  refine ow1 (op1_storeAll (i := 1) (vs := [_, _, _, _, _, _, _, _, _, _, _, _, _, _, _, _, _, _, _, _, _, _, _, _, _, _, _, _, _]) rfl rfl rfl sz106 rfl rfl rfl ?_)
  refine ow_nil (seqK_n (cw_ret (fnK_r (res1 rfl (rv_c (i := 1) (vs := [_, _, _, _, _, _, _, _, _, _, _, _, _, _, _, _, _, _, _, _, _, _, _, _, _, _, _, _, _]) rfl ag106 sz106 rfl rfl rfl)) (.refl _) ?_)))
  refine ⟨_, rfl, ?_⟩
  have e : readD i = ((⟨q2.1, q7.1, (⟨[], 0, []⟩ : ShopR), (⟨[], 0, 0, []⟩ : QueueR), (⟨[], [], false, [], [], false⟩ : BindR), [], 0, 0, 0, 0, 0, (⟨0, [], [], [], [], 0, 0⟩ : Mail), []⟩ : DeedR), q7.2) := by unfold readD readK; simp only [DeedR.blank, bindRead]; (repeat first | simp only [hq5, hq10] | rw [if_pos (by omega)] | rw [if_neg (by omega)]); all_goals first | rfl | (simp [*]; done) | (simp [*]; rfl)
  rw [e]
  exact ⟨_, _, _, _, rfl, rfl, slh_nil, slh_nil⟩
end Go.SW
set_option linter.unusedVariables false
set_option maxRecDepth 100000
set_option maxHeartbeats 4000000
namespace Go.SW
open Go.Proofs
theorem bd117_0s_1s_2b_3s_4l_5b (a1 : Bs) (a2 : Bs) (a3 : Bool) (a4 : Bs) (a5 : Option Addr) (a5l a5c : Nat) (a6 : Bool) (w : World) : (Instr.build 117 #[(0, str a1), (1, str a2), (2, .bool a3), (3, str a4), (4, .slice a5 a5l a5c), (5, .bool a6)]).run Tryz.prog w = .ok (.agg #[str a1, str a2, .bool a3, str a4, .slice a5 a5l a5c, .bool a6]) w := by kernel_rfl
theorem r22_bind (H : Hp) (i_b : Nat) (i_r : RIn) (i : In) (i_R : RSt i_r i) : Pm Tryz.prog 112 #[.pointer (some ⟨i_b, 0, none⟩)] H i_b (bx 114 (RIn.cells i_r)) (fun v H' o' => ∃ (a1 : Option Addr) (c1 : Nat) (j : RIn), v = .agg (BindR.cells ((bindRead i).1) a1 c1).toArray ∧ o' = bx 114 (RIn.cells j) ∧ SlH pairE 4 H' (.slice a1 (((bindRead i).1).want).length c1) (((bindRead i).1).want) ∧ RSt j ((bindRead i).2)) := by
  refine pm_cw Tryz.func112 rfl Tryz.ntmps112 rfl (fun N => ?_)
  have := i_R.err
  have := i_R.lo
  have := i_R.hi
  have := i_R.len
  refine cw_seq (cw_region (ow1 (op1_alloc 1 rfl zr117 (fun b1 => ?_))))
  refine ow_nil (seqK_n (cw_seq (cw_region (ol rfl (lo_move (v := .pointer (some ⟨_, _, none⟩)) rfl) ?_))))
  refine ow1 (op1_pm 0 rfl (rin_Text _ i_b i_r i i_R 16 (by omega)) (en_f cb83 rfl) rfl ?_)
  rintro _ _ _ ⟨j5, rfl, rfl, rfl, hj6⟩ _
  generalize hq7 : inText i 16 = q2 at hj6 ⊢
  have := hj6.err
  have := hj6.lo
  have := hj6.hi
  have := hj6.len
  have hf8 := inText_len i 16
  simp only [hq7] at hf8
  refine ol rfl (lo_assign (v := str _) rfl) (ow_nil (seqK_n (cw_seq (cw_region (ol rfl (lo_move (v := .pointer (some ⟨_, _, none⟩)) rfl) ?_)))))
  refine ow1 (op1_pm 0 rfl (rin_Text _ i_b j5 q2.2 hj6 16 (by omega)) (en_f cb83 rfl) rfl ?_)
  rintro _ _ _ ⟨j12, rfl, rfl, rfl, hj13⟩ _
  generalize hq14 : inText q2.2 16 = q9 at hj13 ⊢
  have := hj13.err
  have := hj13.lo
  have := hj13.hi
  have := hj13.len
  have hf15 := inText_len q2.2 16
  simp only [hq14] at hf15
  refine ol rfl (lo_assign (v := str _) rfl) (ow_nil (seqK_n (cw_seq (cw_region (ol rfl (lo_move (v := .pointer (some ⟨_, _, none⟩)) rfl) ?_)))))
  refine ow1 (op1_pm 0 rfl (rin_Num _ i_b j12 q9.2 hj13 1 (by omega)) (en_f cb53 rfl) rfl ?_)
  rintro _ _ _ ⟨j19, rfl, rfl, rfl, hj20⟩ _
  generalize hq21 : inNum q9.2 1 = q16 at hj20 ⊢
  have := hj20.err
  have := hj20.lo
  have := hj20.hi
  have := hj20.len
  have hf22 := inNum_r q9.2 1
  simp only [hq21] at hf22
  refine oai rfl rfl (ow_nil (seqK_n (cw_seq (cw_region (ol rfl (lo_move (v := .pointer (some ⟨_, _, none⟩)) rfl) ?_)))))
  refine ow1 (op1_pm 0 rfl (rin_Text _ i_b j19 q16.2 hj20 64 (by omega)) (en_f cb83 rfl) rfl ?_)
  rintro _ _ _ ⟨j26, rfl, rfl, rfl, hj27⟩ _
  generalize hq28 : inText q16.2 64 = q23 at hj27 ⊢
  have := hj27.err
  have := hj27.lo
  have := hj27.hi
  have := hj27.len
  have hf29 := inText_len q16.2 64
  simp only [hq28] at hf29
  refine ol rfl (lo_assign (v := str _) rfl) (ow_nil (seqK_n (cw_seq (cw_region (ol rfl (lo_move (v := .pointer (some ⟨_, _, none⟩)) rfl) ?_)))))
  refine ow1 (op1_pm 0 rfl (r9_Read _ i_b j26 q23.2 hj27) (en_f cb84 rfl) rfl ?_)
  rintro _ H35 _ ⟨a31, c32, j36, rfl, rfl, hs33, hj37⟩ hl34
  generalize hq38 : headRead q23.2 = q30 at hj37 hs33 ⊢
  have := hj37.err
  have := hj37.lo
  have := hj37.hi
  have := hj37.len
  have hf39 := headRead_len q23.2
  simp only [hq38] at hf39
  refine ol rfl (lo_assign (v := .slice _ _ _) rfl) (ow_nil (seqK_n (cw_seq (cw_region (ol rfl (lo_move (v := .pointer (some ⟨_, _, none⟩)) rfl) ?_)))))
  refine ow1 (op1_pm 0 rfl (rin_Num _ i_b j36 q30.2 hj37 1 (by omega)) (en_f cb53 rfl) rfl ?_)
  rintro _ _ _ ⟨j43, rfl, rfl, rfl, hj44⟩ _
  generalize hq45 : inNum q30.2 1 = q40 at hj44 ⊢
  have := hj44.err
  have := hj44.lo
  have := hj44.hi
  have := hj44.len
  have hf46 := inNum_r q30.2 1
  simp only [hq45] at hf46
  refine oai rfl rfl (ow_nil (seqK_n (cw_seq (cw_region (ol rfl (lo_move (v := str _) rfl) ?_)))))
  refine ol rfl (lo_move (v := str _) rfl) (omi rfl rfl (ol rfl (lo_eql rfl rfl) (ol rfl (lo_move (v := str _) rfl) (ol rfl (lo_move (v := .slice _ _ _) rfl) (omi rfl rfl ?_)))))
  refine ol rfl (lo_eql rfl rfl) (ol rfl (lo_build (v := .agg #[_, _, _, _, _, _]) rfl (bd117_0s_1s_2b_3s_4l_5b _ _ _ _ _ _ _ _)) ?_)
  refine ow1 (op1_storeAll (i := 1) (vs := [_, _, _, _, _, _]) rfl rfl rfl sz117 rfl rfl rfl ?_)
  refine ow_nil (seqK_n (cw_ret (fnK_r (res1 rfl (rv_c (i := 1) (vs := [_, _, _, _, _, _]) rfl ag117 sz117 rfl rfl rfl)) ((HLe.refl _).trans hl34) ?_)))
  have e : bindRead i = ((⟨q2.1, q9.1, decide (q16.1 = 1), q23.1, q30.1, decide (q40.1 = 1)⟩ : BindR), q40.2) := by unfold bindRead; simp only; (repeat first | simp only [hq7, hq14, hq21, hq28, hq38, hq45] | rw [if_pos (by omega)] | rw [if_neg (by omega)]); all_goals first | rfl | (simp [*]; done) | (simp [*]; rfl)
  rw [e]
  exact ⟨_, rfl, _, _, j43, rfl, rfl, hs33, hj44⟩
end Go.SW
set_option linter.unusedVariables false
set_option maxRecDepth 100000
set_option maxHeartbeats 4000000
namespace Go.SW
open Go.Proofs
theorem bd119_0u8_1u64 (a1 : Int) (a2 : Int) (w : World) : (Instr.build 119 #[(0, .int .u8 a1), (1, .int .u64 a2)]).run Tryz.prog w = .ok (.agg #[.int .u8 a1, .int .u64 a2, str [], .int .u8 0, str [], str [], .int .u64 0, .int .u64 0, str [], str [], str [], .bool false, str [], .slice none 0 0, .bool false, str [], .int .u64 0, .int .u8 0, .int .u8 0, .int .u8 0, .int .u64 0, .int .u64 0, str [], str [], .slice none 0 0, str [], .int .u64 0, .int .u8 0, str []]) w := by kernel_rfl
theorem cb112 : Callable Tryz.prog 112 := callable_of Tryz.func112 (by kernel_rfl) (by kernel_rfl)
theorem cb113 : Callable Tryz.prog 113 := callable_of Tryz.func113 (by kernel_rfl) (by kernel_rfl)
theorem r22_read (H : Hp) (i_b : Nat) (i_r : RIn) (i : In) (i_R : RSt i_r i) : Pm Tryz.prog 54 #[.pointer (some ⟨i_b, 0, none⟩)] H i_b (bx 114 (RIn.cells i_r)) (fun v H' o' => ∃ (a1 : Option Addr) (c1 : Nat) (a2 : Option Addr) (c2 : Nat) (j : RIn), v = .agg (DeedR.cells ((readD i).1) a1 c1 a2 c2).toArray ∧ o' = bx 114 (RIn.cells j) ∧ SlH pairE 4 H' (.slice a1 (((readD i).1).bind.want).length c1) (((readD i).1).bind.want) ∧ SlH pairE 4 H' (.slice a2 (((readD i).1).mail.head).length c2) (((readD i).1).mail.head) ∧ RSt j ((readD i).2)) := by
  refine pm_cw Tryz.func54 rfl Tryz.ntmps54 rfl (fun N => ?_)
  have := i_R.err
  have := i_R.lo
  have := i_R.hi
  have := i_R.len
  refine cw_seq (cw_region (ow1 (op1_alloc 1 rfl zr119 (fun b1 => ?_))))
  refine ow_nil (seqK_n (cw_seq (cw_region (ol rfl (lo_move (v := .pointer (some ⟨_, _, none⟩)) rfl) ?_))))
  refine ow1 (op1_pm 0 rfl (rin_Num _ i_b i_r i i_R 1 (by omega)) (en_f cb53 rfl) rfl ?_)
  rintro _ _ _ ⟨j5, rfl, rfl, rfl, hj6⟩ _
  generalize hq7 : inNum i 1 = q2 at hj6 ⊢
  have := hj6.err
  have := hj6.lo
  have := hj6.hi
  have := hj6.len
  have hf8 := inNum_r i 1
  simp only [hq7] at hf8
  refine oai rfl rfl (ow_nil (seqK_n (cw_seq (cw_region (omi rfl rfl ?_)))))
  refine ol rfl (lo_conv_in rfl (by rw [Tryz.underlying39]; rfl) Tryz.underlying5 (rg_u8 (by omega))) (ol rfl (lo_move (v := .pointer (some ⟨_, _, none⟩)) rfl) ?_)
  refine ow1 (op1_pm 0 rfl (rin_Num _ i_b j5 q2.2 hj6 8 (by omega)) (en_f cb53 rfl) rfl ?_)
  rintro _ _ _ ⟨j12, rfl, rfl, rfl, hj13⟩ _
  generalize hq14 : inNum q2.2 8 = q9 at hj13 ⊢
  have := hj13.err
  have := hj13.lo
  have := hj13.hi
  have := hj13.len
  have hf15 := inNum_r q2.2 8
  simp only [hq14] at hf15
  refine ol rfl (lo_build (v := .agg #[_, _, _, _, _, _, _, _, _, _, _, _, _, _, _, _, _, _, _, _, _, _, _, _, _, _, _, _, _]) rfl (bd119_0u8_1u64 _ _)) (ow1 (op1_alloc 2 rfl zr119 (fun b16 => ?_)))
  refine ow1 (op1_storeAll (i := 2) (vs := [_, _, _, _, _, _, _, _, _, _, _, _, _, _, _, _, _, _, _, _, _, _, _, _, _, _, _, _, _]) rfl rfl rfl sz119 rfl rfl rfl ?_)
  refine ow_nil (seqK_n (cw_seq (cw_seq (cw_region (ol rfl (lo_fieldAddr rfl fl119_0) ?_)))))
  refine ol rfl (lo_load1 (i := 2) (v := .int _ _) rfl ag5 rfl rfl) (ow_nil (seqK_n (cw_block (cw_seq (cw_region ?_)))))
  refine ol rfl (lo_eql rfl rfl) (oab rfl rfl (ow_nil (seqK_n (cw_cond rfl (fun h17 => ?_) (fun h17 => ?_)))))
  · have p18 := dt h17
    refine cw_seq (cw_region (ol rfl (lo_move (v := .pointer (some ⟨_, _, none⟩)) rfl) ?_))
    refine ow1 (op1_pm 0 rfl (rin_Text _ i_b j12 q9.2 hj13 16 (by omega)) (en_f cb83 rfl) rfl ?_)
    rintro _ _ _ ⟨j22, rfl, rfl, rfl, hj23⟩ _
    generalize hq24 : inText q9.2 16 = q19 at hj23 ⊢
    have := hj23.err
    have := hj23.lo
    have := hj23.hi
    have := hj23.len
    have hf25 := inText_len q9.2 16
    simp only [hq24] at hf25
    refine ol rfl (lo_fieldAddr rfl fl119_2) (ol rfl (lo_fieldAddr rfl fl115_0) ?_)
    refine ow1 (op1_store1n (i := 2) (v := str _) [_, _, _, _, _, _, _, _, _, _, _, _, _, _, _, _, _, _, _, _, _, _, _, _, _, _, _, _, _] rfl rfl rfl sz9 rfl rfl rfl ?_)
    refine ow_nil (seqK_n (cw_seq (cw_region (ol rfl (lo_move (v := .pointer (some ⟨_, _, none⟩)) rfl) ?_))))
    refine ow1 (op1_pm 0 rfl (rin_Num _ i_b j22 q19.2 hj23 1 (by omega)) (en_f cb53 rfl) rfl ?_)
    rintro _ _ _ ⟨j29, rfl, rfl, rfl, hj30⟩ _
    generalize hq31 : inNum q19.2 1 = q26 at hj30 ⊢
    have := hj30.err
    have := hj30.lo
    have := hj30.hi
    have := hj30.len
    have hf32 := inNum_r q19.2 1
    simp only [hq31] at hf32
    refine ol rfl (lo_conv_in rfl (by rw [Tryz.underlying39]; rfl) Tryz.underlying5 (rg_u8 (by omega))) (ol rfl (lo_fieldAddr rfl fl119_2) (ol rfl (lo_fieldAddr rfl fl115_1) ?_))
    refine ow1 (op1_store1n (i := 2) (v := .int _ _) [_, _, _, _, _, _, _, _, _, _, _, _, _, _, _, _, _, _, _, _, _, _, _, _, _, _, _, _, _] rfl rfl rfl sz5 rfl rfl rfl ?_)
    refine ow_nil (seqK_n (cw_region (ol rfl (lo_move (v := .pointer (some ⟨_, _, none⟩)) rfl) ?_)))
    refine ow1 (op1_pm 0 rfl (rin_Text _ i_b j29 q26.2 hj30 16 (by omega)) (en_f cb83 rfl) rfl ?_)
    rintro _ _ _ ⟨j36, rfl, rfl, rfl, hj37⟩ _
    generalize hq38 : inText q26.2 16 = q33 at hj37 ⊢
    have := hj37.err
    have := hj37.lo
    have := hj37.hi
    have := hj37.len
    have hf39 := inText_len q26.2 16
    simp only [hq38] at hf39
    refine ol rfl (lo_fieldAddr rfl fl119_2) (ol rfl (lo_fieldAddr rfl fl115_2) ?_)
    refine ow1 (op1_store1n (i := 2) (v := str _) [_, _, _, _, _, _, _, _, _, _, _, _, _, _, _, _, _, _, _, _, _, _, _, _, _, _, _, _, _] rfl rfl rfl sz9 rfl rfl rfl ?_)
    refine ow_nil (blkK_n (seqK_n (cw_seq (cw_seq (cw_region ?_)))))
    refine ol rfl (lo_fieldAddr rfl fl119_0) (ol rfl (lo_load1 (i := 2) (v := .int _ _) rfl ag5 rfl rfl) ?_)
    refine ow1 (op1_pr (r22_names _ q2.1 (by omega)) (en_f cb114 rfl) rfl ?_)
    refine omb rfl rfl ?_
    refine ow1 (op1_gs rfl (fd (by omega)) rfl ?_)
    refine ow1 (op1_gs rfl (fd (by omega)) rfl ?_)
    refine ow1 (op1_gs rfl (fd (by omega)) rfl ?_)
    refine ol rfl (lo_pick_f (v := .bool _) rfl (fd (by omega)) rfl) (ow_nil (seqK_n (cw_cond_f rfl rfl (cw_skip (seqK_n ?_)))))
    refine cw_seq (cw_region (ol rfl (lo_loadA (i := 2) (vs := [_, _, _, _, _, _, _, _, _, _, _, _, _, _, _, _, _, _, _, _, _, _, _, _, _, _, _, _, _]) rfl ag119 sz119 rfl rfl rfl) ?_))
    refine ow1 (op1_storeAll (i := 1) (vs := [_, _, _, _, _, _, _, _, _, _, _, _, _, _, _, _, _, _, _, _, _, _, _, _, _, _, _, _, _]) rfl rfl rfl sz119 rfl rfl rfl ?_)
    refine ow_nil (seqK_n (cw_ret (fnK_r (res1 rfl (rv_c (i := 1) (vs := [_, _, _, _, _, _, _, _, _, _, _, _, _, _, _, _, _, _, _, _, _, _, _, _, _, _, _, _, _]) rfl ag119 sz119 rfl rfl rfl)) (.refl _) ?_)))
    have e : readD i = ((⟨q2.1, q9.1, (⟨q19.1, q26.1, q33.1⟩ : ShopR), (⟨[], 0, 0, []⟩ : QueueR), (⟨[], [], false, [], [], false⟩ : BindR), [], 0, 0, 0, 0, 0, (⟨0, [], [], [], [], 0, 0⟩ : Mail), []⟩ : DeedR), q33.2) := by unfold readD readK; simp only [DeedR.blank]; (repeat first | simp only [hq7, hq14, hq24, hq31, hq38] | rw [if_pos (by omega)] | rw [if_neg (by omega)]); all_goals first | rfl | (simp [*]; done) | (simp [*]; rfl)
    rw [e]
    exact ⟨_, rfl, _, _, _, _, j36, rfl, rfl, slh_nil, slh_nil, hj37⟩
  have p40 := df h17
  refine cw_seq (cw_region (ol rfl (lo_eql rfl rfl) (oab rfl rfl (ow_nil (seqK_n ?_)))))
  refine cw_cond rfl (fun h41 => ?_) (fun h41 => ?_)
  · have p42 := dt h41
    refine cw_seq (cw_region (ol rfl (lo_move (v := .pointer (some ⟨_, _, none⟩)) rfl) ?_))
    refine ow1 (op1_pm 0 rfl (rin_Text _ i_b j12 q9.2 hj13 16 (by omega)) (en_f cb83 rfl) rfl ?_)
    rintro _ _ _ ⟨j46, rfl, rfl, rfl, hj47⟩ _
    generalize hq48 : inText q9.2 16 = q43 at hj47 ⊢
    have := hj47.err
    have := hj47.lo
    have := hj47.hi
    have := hj47.len
    have hf49 := inText_len q9.2 16
    simp only [hq48] at hf49
    refine ol rfl (lo_fieldAddr rfl fl119_3) (ol rfl (lo_fieldAddr rfl fl116_0) ?_)
    refine ow1 (op1_store1n (i := 2) (v := str _) [_, _, _, _, _, _, _, _, _, _, _, _, _, _, _, _, _, _, _, _, _, _, _, _, _, _, _, _, _] rfl rfl rfl sz9 rfl rfl rfl ?_)
    refine ow_nil (seqK_n (cw_seq (cw_region (ol rfl (lo_move (v := .pointer (some ⟨_, _, none⟩)) rfl) ?_))))
    refine ow1 (op1_pm 0 rfl (rin_Num _ i_b j46 q43.2 hj47 8 (by omega)) (en_f cb53 rfl) rfl ?_)
    rintro _ _ _ ⟨j53, rfl, rfl, rfl, hj54⟩ _
    generalize hq55 : inNum q43.2 8 = q50 at hj54 ⊢
    have := hj54.err
    have := hj54.lo
    have := hj54.hi
    have := hj54.len
    have hf56 := inNum_r q43.2 8
    simp only [hq55] at hf56
    refine ol rfl (lo_fieldAddr rfl fl119_3) (ol rfl (lo_fieldAddr rfl fl116_1) ?_)
    refine ow1 (op1_store1n (i := 2) (v := .int _ _) [_, _, _, _, _, _, _, _, _, _, _, _, _, _, _, _, _, _, _, _, _, _, _, _, _, _, _, _, _] rfl rfl rfl sz39 rfl rfl rfl ?_)
    refine ow_nil (seqK_n (cw_seq (cw_region (ol rfl (lo_move (v := .pointer (some ⟨_, _, none⟩)) rfl) ?_))))
    refine ow1 (op1_pm 0 rfl (rin_Num _ i_b j53 q50.2 hj54 8 (by omega)) (en_f cb53 rfl) rfl ?_)
    rintro _ _ _ ⟨j60, rfl, rfl, rfl, hj61⟩ _
    generalize hq62 : inNum q50.2 8 = q57 at hj61 ⊢
    have := hj61.err
    have := hj61.lo
    have := hj61.hi
    have := hj61.len
    have hf63 := inNum_r q50.2 8
    simp only [hq62] at hf63
    refine ol rfl (lo_fieldAddr rfl fl119_3) (ol rfl (lo_fieldAddr rfl fl116_2) ?_)
    refine ow1 (op1_store1n (i := 2) (v := .int _ _) [_, _, _, _, _, _, _, _, _, _, _, _, _, _, _, _, _, _, _, _, _, _, _, _, _, _, _, _, _] rfl rfl rfl sz39 rfl rfl rfl ?_)
    refine ow_nil (seqK_n (cw_region (ol rfl (lo_move (v := .pointer (some ⟨_, _, none⟩)) rfl) ?_)))
    refine ow1 (op1_pm 0 rfl (rin_Text _ i_b j60 q57.2 hj61 16 (by omega)) (en_f cb83 rfl) rfl ?_)
    rintro _ _ _ ⟨j67, rfl, rfl, rfl, hj68⟩ _
    generalize hq69 : inText q57.2 16 = q64 at hj68 ⊢
    have := hj68.err
    have := hj68.lo
    have := hj68.hi
    have := hj68.len
    have hf70 := inText_len q57.2 16
    simp only [hq69] at hf70
    refine ol rfl (lo_fieldAddr rfl fl119_3) (ol rfl (lo_fieldAddr rfl fl116_3) ?_)
    refine ow1 (op1_store1n (i := 2) (v := str _) [_, _, _, _, _, _, _, _, _, _, _, _, _, _, _, _, _, _, _, _, _, _, _, _, _, _, _, _, _] rfl rfl rfl sz9 rfl rfl rfl ?_)
    refine ow_nil (blkK_n (seqK_n (cw_seq (cw_seq (cw_region ?_)))))
    refine ol rfl (lo_fieldAddr rfl fl119_0) (ol rfl (lo_load1 (i := 2) (v := .int _ _) rfl ag5 rfl rfl) ?_)
    refine ow1 (op1_pr (r22_names _ q2.1 (by omega)) (en_f cb114 rfl) rfl ?_)
    refine omb rfl rfl ?_
    refine ow1 (op1_gs rfl (fd (by omega)) rfl ?_)
    refine ow1 (op1_gs rfl (fd (by omega)) rfl ?_)
    refine ow1 (op1_gs rfl (fd (by omega)) rfl ?_)
    refine ol rfl (lo_pick_f (v := .bool _) rfl (fd (by omega)) rfl) (ow_nil (seqK_n (cw_cond_f rfl rfl (cw_skip (seqK_n ?_)))))
    refine cw_seq (cw_region (ol rfl (lo_loadA (i := 2) (vs := [_, _, _, _, _, _, _, _, _, _, _, _, _, _, _, _, _, _, _, _, _, _, _, _, _, _, _, _, _]) rfl ag119 sz119 rfl rfl rfl) ?_))
    refine ow1 (op1_storeAll (i := 1) (vs := [_, _, _, _, _, _, _, _, _, _, _, _, _, _, _, _, _, _, _, _, _, _, _, _, _, _, _, _, _]) rfl rfl rfl sz119 rfl rfl rfl ?_)
    refine ow_nil (seqK_n (cw_ret (fnK_r (res1 rfl (rv_c (i := 1) (vs := [_, _, _, _, _, _, _, _, _, _, _, _, _, _, _, _, _, _, _, _, _, _, _, _, _, _, _, _, _]) rfl ag119 sz119 rfl rfl rfl)) (.refl _) ?_)))
    have e : readD i = ((⟨q2.1, q9.1, (⟨[], 0, []⟩ : ShopR), (⟨q43.1, q50.1, q57.1, q64.1⟩ : QueueR), (⟨[], [], false, [], [], false⟩ : BindR), [], 0, 0, 0, 0, 0, (⟨0, [], [], [], [], 0, 0⟩ : Mail), []⟩ : DeedR), q64.2) := by unfold readD readK; simp only [DeedR.blank]; (repeat first | simp only [hq7, hq14, hq48, hq55, hq62, hq69] | rw [if_pos (by omega)] | rw [if_neg (by omega)]); all_goals first | rfl | (simp [*]; done) | (simp [*]; rfl)
    rw [e]
    exact ⟨_, rfl, _, _, _, _, j67, rfl, rfl, slh_nil, slh_nil, hj68⟩
  have p71 := df h41
  refine cw_seq (cw_seq (cw_region (ol rfl (lo_eql rfl rfl) (oab rfl rfl (ow_nil ?_)))))
  refine seqK_n (cw_cond rfl (fun h72 => ?_) (fun h72 => ?_))
  · have p73 := dt h72
    refine cw_skip (seqK_n (cw_cond_t rfl h72 (cw_region (ol rfl (lo_move (v := .pointer (some ⟨_, _, none⟩)) rfl) ?_))))
    refine ow1 (op1_pm 0 rfl (r22_bind _ i_b j12 q9.2 hj13) (en_f cb112 rfl) rfl ?_)
    rintro _ H79 _ ⟨a75, c76, j80, rfl, rfl, hs77, hj81⟩ hl78
    generalize hq82 : bindRead q9.2 = q74 at hj81 hs77 ⊢
    have := hj81.err
    have := hj81.lo
    have := hj81.hi
    have := hj81.len
    have hf83 := bindRead_wf q9.2
    simp only [hq82] at hf83
    refine ol rfl (lo_fieldAddr rfl fl119_4) ?_
    refine ow1 (op1_storeAp (i := 2) (vs := [_, _, _, _, _, _]) [_, _, _, _, _, _, _, _, _, _, _, _, _, _, _, _, _, _, _, _, _, _, _, _, _, _, _, _, _] rfl rfl rfl sz117 rfl rfl rfl rfl ?_)
    refine ow_nil (blkK_n (seqK_n (cw_seq (cw_seq (cw_region ?_)))))
    refine ol rfl (lo_fieldAddr rfl fl119_0) (ol rfl (lo_load1 (i := 2) (v := .int _ _) rfl ag5 rfl rfl) ?_)
    refine ow1 (op1_pr (r22_names _ q2.1 (by omega)) (en_f cb114 rfl) rfl ?_)
    refine omb rfl rfl ?_
    refine ow1 (op1_gs rfl (fd (by omega)) rfl ?_)
    refine ow1 (op1_gs rfl (fd (by omega)) rfl ?_)
    refine ow1 (op1_gs rfl (fd (by omega)) rfl ?_)
    refine ol rfl (lo_pick_f (v := .bool _) rfl (fd (by omega)) rfl) (ow_nil (seqK_n (cw_cond_f rfl rfl (cw_skip (seqK_n ?_)))))
    refine cw_seq (cw_region (ol rfl (lo_loadA (i := 2) (vs := [_, _, _, _, _, _, _, _, _, _, _, _, _, _, _, _, _, _, _, _, _, _, _, _, _, _, _, _, _]) rfl ag119 sz119 rfl rfl rfl) ?_))
    refine ow1 (op1_storeAll (i := 1) (vs := [_, _, _, _, _, _, _, _, _, _, _, _, _, _, _, _, _, _, _, _, _, _, _, _, _, _, _, _, _]) rfl rfl rfl sz119 rfl rfl rfl ?_)
    refine ow_nil (seqK_n (cw_ret (fnK_r (res1 rfl (rv_c (i := 1) (vs := [_, _, _, _, _, _, _, _, _, _, _, _, _, _, _, _, _, _, _, _, _, _, _, _, _, _, _, _, _]) rfl ag119 sz119 rfl rfl rfl)) ((HLe.refl _).trans hl78) ?_)))
    have e : readD i = ((⟨q2.1, q9.1, (⟨[], 0, []⟩ : ShopR), (⟨[], 0, 0, []⟩ : QueueR), q74.1, [], 0, 0, 0, 0, 0, (⟨0, [], [], [], [], 0, 0⟩ : Mail), []⟩ : DeedR), q74.2) := by unfold readD readK; simp only [DeedR.blank]; (repeat first | simp only [hq7, hq14, hq82] | rw [if_pos (by omega)] | rw [if_neg (by omega)]); all_goals first | rfl | (simp [*]; done) | (simp [*]; rfl)
    rw [e]
    exact ⟨_, rfl, _, _, _, _, j80, rfl, rfl, hs77, slh_nil, hj81⟩
  have p84 := df h72
  refine cw_region (ol rfl (lo_eql rfl rfl) (oab rfl rfl (ow_nil (seqK_n (cw_cond rfl (fun h85 => ?_) (fun h85 => ?_))))))
  · have p86 := dt h85
    refine cw_region (ol rfl (lo_move (v := .pointer (some ⟨_, _, none⟩)) rfl) ?_)
    refine ow1 (op1_pm 0 rfl (r22_bind _ i_b j12 q9.2 hj13) (en_f cb112 rfl) rfl ?_)
    rintro _ H92 _ ⟨a88, c89, j93, rfl, rfl, hs90, hj94⟩ hl91
    generalize hq95 : bindRead q9.2 = q87 at hj94 hs90 ⊢
    have := hj94.err
    have := hj94.lo
    have := hj94.hi
    have := hj94.len
    have hf96 := bindRead_wf q9.2
    simp only [hq95] at hf96
    refine ol rfl (lo_fieldAddr rfl fl119_4) ?_
    refine ow1 (op1_storeAp (i := 2) (vs := [_, _, _, _, _, _]) [_, _, _, _, _, _, _, _, _, _, _, _, _, _, _, _, _, _, _, _, _, _, _, _, _, _, _, _, _] rfl rfl rfl sz117 rfl rfl rfl rfl ?_)
    refine ow_nil (blkK_n (seqK_n (cw_seq (cw_seq (cw_region ?_)))))
    refine ol rfl (lo_fieldAddr rfl fl119_0) (ol rfl (lo_load1 (i := 2) (v := .int _ _) rfl ag5 rfl rfl) ?_)
    refine ow1 (op1_pr (r22_names _ q2.1 (by omega)) (en_f cb114 rfl) rfl ?_)
    refine omb rfl rfl ?_
    refine ow1 (op1_gs rfl (fd (by omega)) rfl ?_)
    refine ow1 (op1_gs rfl (fd (by omega)) rfl ?_)
    refine ow1 (op1_gs rfl (fd (by omega)) rfl ?_)
    refine ol rfl (lo_pick_f (v := .bool _) rfl (fd (by omega)) rfl) (ow_nil (seqK_n (cw_cond_f rfl rfl (cw_skip (seqK_n ?_)))))
    refine cw_seq (cw_region (ol rfl (lo_loadA (i := 2) (vs := [_, _, _, _, _, _, _, _, _, _, _, _, _, _, _, _, _, _, _, _, _, _, _, _, _, _, _, _, _]) rfl ag119 sz119 rfl rfl rfl) ?_))
    refine ow1 (op1_storeAll (i := 1) (vs := [_, _, _, _, _, _, _, _, _, _, _, _, _, _, _, _, _, _, _, _, _, _, _, _, _, _, _, _, _]) rfl rfl rfl sz119 rfl rfl rfl ?_)
    refine ow_nil (seqK_n (cw_ret (fnK_r (res1 rfl (rv_c (i := 1) (vs := [_, _, _, _, _, _, _, _, _, _, _, _, _, _, _, _, _, _, _, _, _, _, _, _, _, _, _, _, _]) rfl ag119 sz119 rfl rfl rfl)) ((HLe.refl _).trans hl91) ?_)))
    have e : readD i = ((⟨q2.1, q9.1, (⟨[], 0, []⟩ : ShopR), (⟨[], 0, 0, []⟩ : QueueR), q87.1, [], 0, 0, 0, 0, 0, (⟨0, [], [], [], [], 0, 0⟩ : Mail), []⟩ : DeedR), q87.2) := by unfold readD readK; simp only [DeedR.blank]; (repeat first | simp only [hq7, hq14, hq95] | rw [if_pos (by omega)] | rw [if_neg (by omega)]); all_goals first | rfl | (simp [*]; done) | (simp [*]; rfl)
    rw [e]
    exact ⟨_, rfl, _, _, _, _, j93, rfl, rfl, hs90, slh_nil, hj94⟩
  have p97 := df h85
  refine cw_seq (cw_region (ol rfl (lo_eql rfl rfl) (oab rfl rfl (ow_nil (seqK_n ?_)))))
  refine cw_cond rfl (fun h98 => ?_) (fun h98 => ?_)
  · have p99 := dt h98
    refine cw_region (ol rfl (lo_move (v := .pointer (some ⟨_, _, none⟩)) rfl) ?_)
    refine ow1 (op1_pm 0 rfl (r13_Read _ i_b j12 q9.2 hj13) (en_f cb113 rfl) rfl ?_)
    rintro _ H105 _ ⟨a101, c102, j106, rfl, rfl, hs103, hj107⟩ hl104
    generalize hq108 : mailRead q9.2 = q100 at hj107 hs103 ⊢
    have := hj107.err
    have := hj107.lo
    have := hj107.hi
    have := hj107.len
    have hf109 := mailRead_wf q9.2
    simp only [hq108] at hf109
    refine ol rfl (lo_fieldAddr rfl fl119_11) ?_
    refine ow1 (op1_storeAp (i := 2) (vs := [_, _, _, _, _, _, _]) [_, _, _, _, _, _, _, _, _, _, _, _, _, _, _, _, _, _, _, _, _, _, _, _, _, _, _, _, _] rfl rfl rfl sz42 rfl rfl rfl rfl ?_)
    refine ow_nil (blkK_n (seqK_n (cw_seq (cw_seq (cw_region ?_)))))
    refine ol rfl (lo_fieldAddr rfl fl119_0) (ol rfl (lo_load1 (i := 2) (v := .int _ _) rfl ag5 rfl rfl) ?_)
    refine ow1 (op1_pr (r22_names _ q2.1 (by omega)) (en_f cb114 rfl) rfl ?_)
    refine omb rfl rfl ?_
    refine ow1 (op1_gs rfl (fd (by omega)) rfl ?_)
    refine ow1 (op1_gs rfl (fd (by omega)) rfl ?_)
    refine ow1 (op1_gs rfl (fd (by omega)) rfl ?_)
    refine ol rfl (lo_pick_f (v := .bool _) rfl (fd (by omega)) rfl) (ow_nil (seqK_n (cw_cond_f rfl rfl (cw_skip (seqK_n ?_)))))
    refine cw_seq (cw_region (ol rfl (lo_loadA (i := 2) (vs := [_, _, _, _, _, _, _, _, _, _, _, _, _, _, _, _, _, _, _, _, _, _, _, _, _, _, _, _, _]) rfl ag119 sz119 rfl rfl rfl) ?_))
    refine ow1 (op1_storeAll (i := 1) (vs := [_, _, _, _, _, _, _, _, _, _, _, _, _, _, _, _, _, _, _, _, _, _, _, _, _, _, _, _, _]) rfl rfl rfl sz119 rfl rfl rfl ?_)
    refine ow_nil (seqK_n (cw_ret (fnK_r (res1 rfl (rv_c (i := 1) (vs := [_, _, _, _, _, _, _, _, _, _, _, _, _, _, _, _, _, _, _, _, _, _, _, _, _, _, _, _, _]) rfl ag119 sz119 rfl rfl rfl)) ((HLe.refl _).trans hl104) ?_)))
    have e : readD i = ((⟨q2.1, q9.1, (⟨[], 0, []⟩ : ShopR), (⟨[], 0, 0, []⟩ : QueueR), (⟨[], [], false, [], [], false⟩ : BindR), [], 0, 0, 0, 0, 0, q100.1, []⟩ : DeedR), q100.2) := by unfold readD readK; simp only [DeedR.blank]; (repeat first | simp only [hq7, hq14, hq108] | rw [if_pos (by omega)] | rw [if_neg (by omega)]); all_goals first | rfl | (simp [*]; done) | (simp [*]; rfl)
    rw [e]
    exact ⟨_, rfl, _, _, _, _, j106, rfl, rfl, slh_nil, hs103, hj107⟩
  have p110 := df h98
  refine cw_seq (cw_region (ol rfl (lo_eql rfl rfl) (oab rfl rfl (ow_nil (seqK_n ?_)))))
  refine cw_cond rfl (fun h111 => ?_) (fun h111 => ?_)
  · have p112 := dt h111
    refine cw_seq (cw_region (ol rfl (lo_move (v := .pointer (some ⟨_, _, none⟩)) rfl) ?_))
    refine ow1 (op1_pm 0 rfl (rin_Text _ i_b j12 q9.2 hj13 16 (by omega)) (en_f cb83 rfl) rfl ?_)
    rintro _ _ _ ⟨j116, rfl, rfl, rfl, hj117⟩ _
    generalize hq118 : inText q9.2 16 = q113 at hj117 ⊢
    have := hj117.err
    have := hj117.lo
    have := hj117.hi
    have := hj117.len
    have hf119 := inText_len q9.2 16
    simp only [hq118] at hf119
    refine ol rfl (lo_fieldAddr rfl fl119_5) ?_
    refine ow1 (op1_store1n (i := 2) (v := str _) [_, _, _, _, _, _, _, _, _, _, _, _, _, _, _, _, _, _, _, _, _, _, _, _, _, _, _, _, _] rfl rfl rfl sz9 rfl rfl rfl ?_)
    refine ow_nil (seqK_n (cw_seq (cw_region (ol rfl (lo_move (v := .pointer (some ⟨_, _, none⟩)) rfl) ?_))))
    refine ow1 (op1_pm 0 rfl (rin_Num _ i_b j116 q113.2 hj117 8 (by omega)) (en_f cb53 rfl) rfl ?_)
    rintro _ _ _ ⟨j123, rfl, rfl, rfl, hj124⟩ _
    generalize hq125 : inNum q113.2 8 = q120 at hj124 ⊢
    have := hj124.err
    have := hj124.lo
    have := hj124.hi
    have := hj124.len
    have hf126 := inNum_r q113.2 8
    simp only [hq125] at hf126
    refine ol rfl (lo_fieldAddr rfl fl119_6) ?_
    refine ow1 (op1_store1n (i := 2) (v := .int _ _) [_, _, _, _, _, _, _, _, _, _, _, _, _, _, _, _, _, _, _, _, _, _, _, _, _, _, _, _, _] rfl rfl rfl sz39 rfl rfl rfl ?_)
    refine ow_nil (seqK_n (cw_region (ol rfl (lo_move (v := .pointer (some ⟨_, _, none⟩)) rfl) ?_)))
    refine ow1 (op1_pm 0 rfl (rin_Num _ i_b j123 q120.2 hj124 1 (by omega)) (en_f cb53 rfl) rfl ?_)
    rintro _ _ _ ⟨j130, rfl, rfl, rfl, hj131⟩ _
    generalize hq132 : inNum q120.2 1 = q127 at hj131 ⊢
    have := hj131.err
    have := hj131.lo
    have := hj131.hi
    have := hj131.len
    have hf133 := inNum_r q120.2 1
    simp only [hq132] at hf133
    refine ol rfl (lo_conv_in rfl (by rw [Tryz.underlying39]; rfl) Tryz.underlying5 (rg_u8 (by omega))) (ol rfl (lo_fieldAddr rfl fl119_7) ?_)
    refine ow1 (op1_store1n (i := 2) (v := .int _ _) [_, _, _, _, _, _, _, _, _, _, _, _, _, _, _, _, _, _, _, _, _, _, _, _, _, _, _, _, _] rfl rfl rfl sz5 rfl rfl rfl ?_)
    refine ow_nil (blkK_n (seqK_n (cw_seq (cw_seq (cw_region ?_)))))
    refine ol rfl (lo_fieldAddr rfl fl119_0) (ol rfl (lo_load1 (i := 2) (v := .int _ _) rfl ag5 rfl rfl) ?_)
    refine ow1 (op1_pr (r22_names _ q2.1 (by omega)) (en_f cb114 rfl) rfl ?_)
    refine omb rfl rfl ?_
    refine ow1 (op1_g rfl (td (by omega)) rfl (lo_fieldAddr rfl fl119_0) ?_)
    refine ow1 (op1_g rfl (td (by omega)) rfl (lo_load1 (i := 2) (v := .int _ _) rfl ag5 rfl rfl) ?_)
    refine ow1 (op1_g rfl (td (by omega)) rfl (lo_neq rfl rfl) ?_)
    refine ol rfl (lo_pick_t (v := .bool _) rfl (td (by omega)) rfl) (ow_nil (seqK_n (cw_cond_f rfl (by rw [h111] <;> rfl) (cw_skip (seqK_n ?_)))))
    refine cw_seq (cw_region (ol rfl (lo_loadA (i := 2) (vs := [_, _, _, _, _, _, _, _, _, _, _, _, _, _, _, _, _, _, _, _, _, _, _, _, _, _, _, _, _]) rfl ag119 sz119 rfl rfl rfl) ?_))
    refine ow1 (op1_storeAll (i := 1) (vs := [_, _, _, _, _, _, _, _, _, _, _, _, _, _, _, _, _, _, _, _, _, _, _, _, _, _, _, _, _]) rfl rfl rfl sz119 rfl rfl rfl ?_)
    refine ow_nil (seqK_n (cw_ret (fnK_r (res1 rfl (rv_c (i := 1) (vs := [_, _, _, _, _, _, _, _, _, _, _, _, _, _, _, _, _, _, _, _, _, _, _, _, _, _, _, _, _]) rfl ag119 sz119 rfl rfl rfl)) (.refl _) ?_)))
    have e : readD i = ((⟨q2.1, q9.1, (⟨[], 0, []⟩ : ShopR), (⟨[], 0, 0, []⟩ : QueueR), (⟨[], [], false, [], [], false⟩ : BindR), q113.1, q120.1, q127.1, 0, 0, 0, (⟨0, [], [], [], [], 0, 0⟩ : Mail), []⟩ : DeedR), q127.2) := by unfold readD readK; simp only [DeedR.blank]; (repeat first | simp only [hq7, hq14, hq118, hq125, hq132] | rw [if_pos (by omega)] | rw [if_neg (by omega)]); all_goals first | rfl | (simp [*]; done) | (simp [*]; rfl)
    rw [e]
    exact ⟨_, rfl, _, _, _, _, j130, rfl, rfl, slh_nil, slh_nil, hj131⟩
  have p134 := df h111
  refine cw_seq (cw_region (ol rfl (lo_eql rfl rfl) (oab rfl rfl (ow_nil (seqK_n ?_)))))
  refine cw_cond rfl (fun h135 => ?_) (fun h135 => ?_)
  · have p136 := dt h135
    refine cw_seq (cw_region (ol rfl (lo_move (v := .pointer (some ⟨_, _, none⟩)) rfl) ?_))
    refine ow1 (op1_pm 0 rfl (rin_Num _ i_b j12 q9.2 hj13 1 (by omega)) (en_f cb53 rfl) rfl ?_)
    rintro _ _ _ ⟨j140, rfl, rfl, rfl, hj141⟩ _
    generalize hq142 : inNum q9.2 1 = q137 at hj141 ⊢
    have := hj141.err
    have := hj141.lo
    have := hj141.hi
    have := hj141.len
    have hf143 := inNum_r q9.2 1
    simp only [hq142] at hf143
    refine ol rfl (lo_conv_in rfl (by rw [Tryz.underlying39]; rfl) Tryz.underlying5 (rg_u8 (by omega))) (ol rfl (lo_fieldAddr rfl fl119_8) ?_)
    refine ow1 (op1_store1n (i := 2) (v := .int _ _) [_, _, _, _, _, _, _, _, _, _, _, _, _, _, _, _, _, _, _, _, _, _, _, _, _, _, _, _, _] rfl rfl rfl sz5 rfl rfl rfl ?_)
    refine ow_nil (seqK_n (cw_seq (cw_region (ol rfl (lo_move (v := .pointer (some ⟨_, _, none⟩)) rfl) ?_))))
    refine ow1 (op1_pm 0 rfl (rin_Num _ i_b j140 q137.2 hj141 8 (by omega)) (en_f cb53 rfl) rfl ?_)
    rintro _ _ _ ⟨j147, rfl, rfl, rfl, hj148⟩ _
    generalize hq149 : inNum q137.2 8 = q144 at hj148 ⊢
    have := hj148.err
    have := hj148.lo
    have := hj148.hi
    have := hj148.len
    have hf150 := inNum_r q137.2 8
    simp only [hq149] at hf150
    refine ol rfl (lo_fieldAddr rfl fl119_10) ?_
    refine ow1 (op1_store1n (i := 2) (v := .int _ _) [_, _, _, _, _, _, _, _, _, _, _, _, _, _, _, _, _, _, _, _, _, _, _, _, _, _, _, _, _] rfl rfl rfl sz39 rfl rfl rfl ?_)
    refine ow_nil (seqK_n (cw_region (ol rfl (lo_move (v := .pointer (some ⟨_, _, none⟩)) rfl) ?_)))
    refine ow1 (op1_pm 0 rfl (r13_Read _ i_b j147 q144.2 hj148) (en_f cb113 rfl) rfl ?_)
    rintro _ H156 _ ⟨a152, c153, j157, rfl, rfl, hs154, hj158⟩ hl155
    generalize hq159 : mailRead q144.2 = q151 at hj158 hs154 ⊢
    have := hj158.err
    have := hj158.lo
    have := hj158.hi
    have := hj158.len
    have hf160 := mailRead_wf q144.2
    simp only [hq159] at hf160
    refine ol rfl (lo_fieldAddr rfl fl119_11) ?_
    refine ow1 (op1_storeAp (i := 2) (vs := [_, _, _, _, _, _, _]) [_, _, _, _, _, _, _, _, _, _, _, _, _, _, _, _, _, _, _, _, _, _, _, _, _, _, _, _, _] rfl rfl rfl sz42 rfl rfl rfl rfl ?_)
    refine ow_nil (blkK_n (seqK_n (cw_seq (cw_seq (cw_region ?_)))))
    refine ol rfl (lo_fieldAddr rfl fl119_0) (ol rfl (lo_load1 (i := 2) (v := .int _ _) rfl ag5 rfl rfl) ?_)
    refine ow1 (op1_pr (r22_names _ q2.1 (by omega)) (en_f cb114 rfl) rfl ?_)
    refine omb rfl rfl ?_
    refine ow1 (op1_gs rfl (fd (by omega)) rfl ?_)
    refine ow1 (op1_gs rfl (fd (by omega)) rfl ?_)
    refine ow1 (op1_gs rfl (fd (by omega)) rfl ?_)
    refine ol rfl (lo_pick_f (v := .bool _) rfl (fd (by omega)) rfl) (ow_nil (seqK_n (cw_cond_f rfl rfl (cw_skip (seqK_n ?_)))))
    refine cw_seq (cw_region (ol rfl (lo_loadA (i := 2) (vs := [_, _, _, _, _, _, _, _, _, _, _, _, _, _, _, _, _, _, _, _, _, _, _, _, _, _, _, _, _]) rfl ag119 sz119 rfl rfl rfl) ?_))
    refine ow1 (op1_storeAll (i := 1) (vs := [_, _, _, _, _, _, _, _, _, _, _, _, _, _, _, _, _, _, _, _, _, _, _, _, _, _, _, _, _]) rfl rfl rfl sz119 rfl rfl rfl ?_)
    refine ow_nil (seqK_n (cw_ret (fnK_r (res1 rfl (rv_c (i := 1) (vs := [_, _, _, _, _, _, _, _, _, _, _, _, _, _, _, _, _, _, _, _, _, _, _, _, _, _, _, _, _]) rfl ag119 sz119 rfl rfl rfl)) ((HLe.refl _).trans hl155) ?_)))
    have e : readD i = ((⟨q2.1, q9.1, (⟨[], 0, []⟩ : ShopR), (⟨[], 0, 0, []⟩ : QueueR), (⟨[], [], false, [], [], false⟩ : BindR), [], 0, 0, q137.1, 0, q144.1, q151.1, []⟩ : DeedR), q151.2) := by unfold readD readK; simp only [DeedR.blank]; (repeat first | simp only [hq7, hq14, hq142, hq149, hq159] | rw [if_pos (by omega)] | rw [if_neg (by omega)]); all_goals first | rfl | (simp [*]; done) | (simp [*]; rfl)
    rw [e]
    exact ⟨_, rfl, _, _, _, _, j157, rfl, rfl, slh_nil, hs154, hj158⟩
  have p161 := df h135
  refine cw_seq (cw_region (ol rfl (lo_eql rfl rfl) (oab rfl rfl (ow_nil (seqK_n ?_)))))
  refine cw_cond rfl (fun h162 => ?_) (fun h162 => ?_)
  · have p163 := dt h162
    refine cw_seq (cw_region (ol rfl (lo_move (v := .pointer (some ⟨_, _, none⟩)) rfl) ?_))
    refine ow1 (op1_pm 0 rfl (rin_Num _ i_b j12 q9.2 hj13 1 (by omega)) (en_f cb53 rfl) rfl ?_)
    rintro _ _ _ ⟨j167, rfl, rfl, rfl, hj168⟩ _
    generalize hq169 : inNum q9.2 1 = q164 at hj168 ⊢
    have := hj168.err
    have := hj168.lo
    have := hj168.hi
    have := hj168.len
    have hf170 := inNum_r q9.2 1
    simp only [hq169] at hf170
    refine ol rfl (lo_conv_in rfl (by rw [Tryz.underlying39]; rfl) Tryz.underlying5 (rg_u8 (by omega))) (ol rfl (lo_fieldAddr rfl fl119_9) ?_)
    refine ow1 (op1_store1n (i := 2) (v := .int _ _) [_, _, _, _, _, _, _, _, _, _, _, _, _, _, _, _, _, _, _, _, _, _, _, _, _, _, _, _, _] rfl rfl rfl sz5 rfl rfl rfl ?_)
    refine ow_nil (seqK_n (cw_region (ol rfl (lo_move (v := .pointer (some ⟨_, _, none⟩)) rfl) ?_)))
    refine ow1 (op1_pm 0 rfl (rin_Text _ i_b j167 q164.2 hj168 64 (by omega)) (en_f cb83 rfl) rfl ?_)
    rintro _ _ _ ⟨j174, rfl, rfl, rfl, hj175⟩ _
    generalize hq176 : inText q164.2 64 = q171 at hj175 ⊢
    have := hj175.err
    have := hj175.lo
    have := hj175.hi
    have := hj175.len
    have hf177 := inText_len q164.2 64
    simp only [hq176] at hf177
    refine ol rfl (lo_fieldAddr rfl fl119_12) ?_
    refine ow1 (op1_store1n (i := 2) (v := str _) [_, _, _, _, _, _, _, _, _, _, _, _, _, _, _, _, _, _, _, _, _, _, _, _, _, _, _, _, _] rfl rfl rfl sz9 rfl rfl rfl ?_)
    refine ow_nil (blkK_n (seqK_n (cw_seq (cw_seq (cw_region ?_)))))
    refine ol rfl (lo_fieldAddr rfl fl119_0) (ol rfl (lo_load1 (i := 2) (v := .int _ _) rfl ag5 rfl rfl) ?_)
    refine ow1 (op1_pr (r22_names _ q2.1 (by omega)) (en_f cb114 rfl) rfl ?_)
    refine omb rfl rfl ?_
    refine ow1 (op1_gs rfl (fd (by omega)) rfl ?_)
    refine ow1 (op1_gs rfl (fd (by omega)) rfl ?_)
    refine ow1 (op1_gs rfl (fd (by omega)) rfl ?_)
    refine ol rfl (lo_pick_f (v := .bool _) rfl (fd (by omega)) rfl) (ow_nil (seqK_n (cw_cond_f rfl rfl (cw_skip (seqK_n ?_)))))
    refine cw_seq (cw_region (ol rfl (lo_loadA (i := 2) (vs := [_, _, _, _, _, _, _, _, _, _, _, _, _, _, _, _, _, _, _, _, _, _, _, _, _, _, _, _, _]) rfl ag119 sz119 rfl rfl rfl) ?_))
    refine ow1 (op1_storeAll (i := 1) (vs := [_, _, _, _, _, _, _, _, _, _, _, _, _, _, _, _, _, _, _, _, _, _, _, _, _, _, _, _, _]) rfl rfl rfl sz119 rfl rfl rfl ?_)
    refine ow_nil (seqK_n (cw_ret (fnK_r (res1 rfl (rv_c (i := 1) (vs := [_, _, _, _, _, _, _, _, _, _, _, _, _, _, _, _, _, _, _, _, _, _, _, _, _, _, _, _, _]) rfl ag119 sz119 rfl rfl rfl)) (.refl _) ?_)))
    have e : readD i = ((⟨q2.1, q9.1, (⟨[], 0, []⟩ : ShopR), (⟨[], 0, 0, []⟩ : QueueR), (⟨[], [], false, [], [], false⟩ : BindR), [], 0, 0, 0, q164.1, 0, (⟨0, [], [], [], [], 0, 0⟩ : Mail), q171.1⟩ : DeedR), q171.2) := by unfold readD readK; simp only [DeedR.blank]; (repeat first | simp only [hq7, hq14, hq169, hq176] | rw [if_pos (by omega)] | rw [if_neg (by omega)]); all_goals first | rfl | (simp [*]; done) | (simp [*]; rfl)
    rw [e]
    exact ⟨_, rfl, _, _, _, _, j174, rfl, rfl, slh_nil, slh_nil, hj175⟩
  have p178 := df h162
  refine cw_skip (blkK_n (seqK_n (cw_seq (cw_seq (cw_region ?_)))))
  refine ol rfl (lo_fieldAddr rfl fl119_0) (ol rfl (lo_load1 (i := 2) (v := .int _ _) rfl ag5 rfl rfl) ?_)
  refine ow1 (op1_pr (r22_names _ q2.1 (by omega)) (en_f cb114 rfl) rfl ?_)
  refine omb rfl rfl (ow_sp (j := 3) rfl (fun h179 => ?_) (fun h179 => ?_))
  · have p180 := dt h179
    refine ow1 (op1_g rfl h179 rfl (lo_fieldAddr rfl fl119_0) ?_)
    refine ow1 (op1_g rfl h179 rfl (lo_load1 (i := 2) (v := .int _ _) rfl ag5 rfl rfl) ?_)
    refine ow1 (op1_g rfl h179 rfl (lo_neq rfl rfl) ?_)
    refine ol rfl (lo_pick_t (v := .bool _) rfl h179 rfl) (ow_nil (seqK_n (cw_cond_t rfl (by rw [h111] <;> rfl) (cw_region (ol rfl (lo_move (v := .pointer (some ⟨_, _, none⟩)) rfl) ?_)))))
    refine ow1 (op1_pm 0 rfl (rin_Text _ i_b j12 q9.2 hj13 16 (by omega)) (en_f cb83 rfl) rfl ?_)
    rintro _ _ _ ⟨j184, rfl, rfl, rfl, hj185⟩ _
    generalize hq186 : inText q9.2 16 = q181 at hj185 ⊢
    have := hj185.err
    have := hj185.lo
    have := hj185.hi
    have := hj185.len
    have hf187 := inText_len q9.2 16
    simp only [hq186] at hf187
    refine ol rfl (lo_fieldAddr rfl fl119_5) ?_
    refine ow1 (op1_store1n (i := 2) (v := str _) [_, _, _, _, _, _, _, _, _, _, _, _, _, _, _, _, _, _, _, _, _, _, _, _, _, _, _, _, _] rfl rfl rfl sz9 rfl rfl rfl ?_)
    refine ow_nil (seqK_n (cw_seq (cw_region (ol rfl (lo_loadA (i := 2) (vs := [_, _, _, _, _, _, _, _, _, _, _, _, _, _, _, _, _, _, _, _, _, _, _, _, _, _, _, _, _]) rfl ag119 sz119 rfl rfl rfl) ?_))))
    refine ow1 (op1_storeAll (i := 1) (vs := [_, _, _, _, _, _, _, _, _, _, _, _, _, _, _, _, _, _, _, _, _, _, _, _, _, _, _, _, _]) rfl rfl rfl sz119 rfl rfl rfl ?_)
    refine ow_nil (seqK_n (cw_ret (fnK_r (res1 rfl (rv_c (i := 1) (vs := [_, _, _, _, _, _, _, _, _, _, _, _, _, _, _, _, _, _, _, _, _, _, _, _, _, _, _, _, _]) rfl ag119 sz119 rfl rfl rfl)) (.refl _) ?_)))
    have e : readD i = ((⟨q2.1, q9.1, (⟨[], 0, []⟩ : ShopR), (⟨[], 0, 0, []⟩ : QueueR), (⟨[], [], false, [], [], false⟩ : BindR), q181.1, 0, 0, 0, 0, 0, (⟨0, [], [], [], [], 0, 0⟩ : Mail), []⟩ : DeedR), q181.2) := by unfold readD readK; simp only [DeedR.blank]; (repeat first | simp only [hq7, hq14, hq186] | rw [if_pos (by omega)] | rw [if_neg (by omega)]); all_goals first | rfl | (simp [*]; done) | (simp [*]; rfl)
    rw [e]
    exact ⟨_, rfl, _, _, _, _, j184, rfl, rfl, slh_nil, slh_nil, hj185⟩
  have p188 := df h179
  refine og rfl h179 rfl (og rfl h179 rfl (og rfl h179 rfl (ol rfl (lo_pick_f (v := .bool _) rfl h179 rfl) (ow_nil (seqK_n ?_)))))
  refine cw_cond_f rfl rfl (cw_skip (seqK_n (cw_seq (cw_region (ol rfl (lo_loadA (i := 2) (vs := [_, _, _, _, _, _, _, _, _, _, _, _, _, _, _, _, _, _, _, _, _, _, _, _, _, _, _, _, _]) rfl ag119 sz119 rfl rfl rfl) ?_)))))
  refine ow1 (op1_storeAll (i := 1) (vs := [_, _, _, _, _, _, _, _, _, _, _, _, _, _, _, _, _, _, _, _, _, _, _, _, _, _, _, _, _]) rfl rfl rfl sz119 rfl rfl rfl ?_)
  refine ow_nil (seqK_n (cw_ret (fnK_r (res1 rfl (rv_c (i := 1) (vs := [_, _, _, _, _, _, _, _, _, _, _, _, _, _, _, _, _, _, _, _, _, _, _, _, _, _, _, _, _]) rfl ag119 sz119 rfl rfl rfl)) (.refl _) ?_)))
  have e : readD i = ((⟨q2.1, q9.1, (⟨[], 0, []⟩ : ShopR), (⟨[], 0, 0, []⟩ : QueueR), (⟨[], [], false, [], [], false⟩ : BindR), [], 0, 0, 0, 0, 0, (⟨0, [], [], [], [], 0, 0⟩ : Mail), []⟩ : DeedR), q9.2) := by unfold readD readK; simp only [DeedR.blank]; (repeat first | simp only [hq7, hq14] | rw [if_pos (by omega)] | rw [if_neg (by omega)]); all_goals first | rfl | (simp [*]; done) | (simp [*]; rfl)
  rw [e]
  exact ⟨_, rfl, _, _, _, _, j12, rfl, rfl, slh_nil, slh_nil, hj13⟩
end Go.SW
set_option linter.unusedVariables false
set_option maxRecDepth 100000
set_option maxHeartbeats 4000000
namespace Go.SW
open Go.Proofs
theorem bd114_0s (a1 : Bs) (w : World) : (Instr.build 114 #[(0, str a1)]).run Tryz.prog w = .ok (.agg #[str a1, .int .i64 0, .int .i64 0]) w := by kernel_rfl
theorem by106 : By Tryz.prog 106 344 := by_of (by kernel_rfl)
theorem cb14 : Callable Tryz.prog 14 := callable_of Tryz.func14 (by kernel_rfl) (by kernel_rfl)
theorem cb51 : Callable Tryz.prog 51 := callable_of Tryz.func51 (by kernel_rfl) (by kernel_rfl)
theorem cb54 : Callable Tryz.prog 54 := callable_of Tryz.func54 (by kernel_rfl) (by kernel_rfl)
theorem cb55 : Callable Tryz.prog 55 := callable_of Tryz.func55 (by kernel_rfl) (by kernel_rfl)
theorem cb56 : Callable Tryz.prog 56 := callable_of Tryz.func56 (by kernel_rfl) (by kernel_rfl)
theorem zx106 : ∃ z, ∀ w, (zeroValue 106).run Tryz.prog w = .ok z w := ⟨.agg #[.int .u8 0, .int .u64 0, str [], .int .u8 0, str [], str [], .int .u64 0, .int .u64 0, str [], str [], str [], .bool false, str [], .slice none 0 0, .bool false, str [], .int .u64 0, .int .u8 0, .int .u8 0, .int .u8 0, .int .u64 0, .int .u64 0, str [], str [], .slice none 0 0, str [], .int .u64 0, .int .u8 0, str []], fun w => by kernel_rfl⟩
theorem deed_Unpack (H : Hp) (text : Bs) (hML : GInt H 2) (hs : text.length ≤ 4611686018427387904) : Ph Tryz.prog 10 #[str text] H (fun v H' => ∃ (a1 : Option Addr) (c1 : Nat), v = .tuple #[.slice a1 ((unpackD text).1).length c1, .int .i64 ((unpackD text).2)] ∧ SlH deedRE 29 H' (.slice a1 ((unpackD text).1).length c1) ((unpackD text).1)) := by
  refine ph_cw Tryz.func10 rfl Tryz.ntmps10 rfl (fun N => ?_)
  refine cw_seq (cw_region (ol rfl (lo_assign (v := .slice _ _ _) rfl) (oai rfl rfl (ow_nil (seqK_n ?_)))))
  refine cw_seq (cw_region (ol rfl (lo_move (v := str _) rfl) ?_))
  refine ow1 (op1_pn 0 (octet_New _ text) (en_f cb48 rfl) rfl ?_)
  rintro _ _ b3 _ ⟨rfl, rfl, rfl⟩ _
  refine ol rfl (lo_assign (v := .pointer (some ⟨_, _, none⟩)) rfl) (ow_nil (seqK_n (cw_seq (cw_region (ol rfl (lo_assign (v := .slice _ _ _) rfl) ?_)))))
  refine ow_nil (seqK_n (cw_seq (cw_seq (cw_region (ol rfl (lo_move (v := .pointer (some ⟨_, _, none⟩)) rfl) ?_)))))
  refine ow1 (op1_pm 0 rfl (in_Num _ b3 (⟨text, 0⟩) 1 (by omega)) (en_f cb49 rfl) rfl ?_)
  rintro _ _ _ ⟨rfl, rfl, rfl⟩ _
  generalize hq7 : inNum (⟨text, 0⟩) 1 = q4
  have hf8 := inNum_r (⟨text, 0⟩) 1
  simp only [hq7] at hf8
  refine oai rfl rfl (ow_nil (seqK_n (cw_block ?_)))
  refine cw_loop6 [5, 6, 13, 14, 15, 16, 17, 18, 19, 20, 21, 22, 23, 24, 25, 26] [0, 1, 9] (fun (m : Nat) (j : In) (out : List DeedR) (v : Value) (en : Option (Nat × Obj)) (cs : List Value) G => upd (upd (G) 6 (.int .u64 (m : Int))) 5 (v)) (fun (m : Nat) (j : In) (out : List DeedR) (v : Value) (en : Option (Nat × Obj)) (cs : List Value) G => lupd (lupd (G) 0 (some (b3, bx 169 (In.cells j)))) 9 (en)) (fun (m : Nat) (j : In) (out : List DeedR) (v : Value) (en : Option (Nat × Obj)) (cs : List Value) H' => unpackGo (inNum ⟨text, 0⟩ 1).1.toNat (inNum ⟨text, 0⟩ 1).2 [] = unpackGo m j out ∧ m ≤ 255 ∧ out.length + m ≤ 255 ∧ OwnV 29 106 v en out.length cs ∧ Rl deedRE H' out cs) (fun (m : Nat) (j : In) (out : List DeedR) (v : Value) (en : Option (Nat × Obj)) (cs : List Value) => m) q4.1.toNat q4.2 [] (.slice none 0 0) none [] (upd_intro (upd_intro (mask_intro (by first | exact off_refl | (repeat (first | exact off_mask | refine off_upd rfl ?_ | refine off_mask2 rfl ?_)))) (congrArg (Value.int .u64) (by omega))) rfl) (lupd_intro (lupd_intro (lmask_intro offl_refl) rfl) rfl) ?_ ?_
  · refine ⟨by rw [hq7], by omega, by simp; omega, ownV_nil, rl_nil⟩
  intro m j out v en cs J10 JL10 H10 hp9 hl10
  obtain ⟨hk1, hk2, hk3, ho, hw⟩ := hp9
  refine cw_seq (cw_seq (cw_region (omi rfl rfl (ol rfl (lo_gtr rfl rfl) (omb rfl rfl ?_)))))
  refine ow_sp (j := 2) rfl (fun h11 => ?_) (fun h11 => ?_)
  · have p12 := dt h11
    refine ow1 (op1_g rfl h11 rfl (lo_move (v := .pointer (some ⟨_, _, none⟩)) rfl) ?_)
    refine ow1 (op1_pmg 0 rfl h11 rfl (in_Err _ b3 j) (en_f cb50 rfl) rfl ?_)
    rintro _ _ _ ⟨rfl, rfl, rfl⟩ _
    refine ow1 (op1_g rfl h11 rfl (lo_eql rfl rfl) ?_)
    refine ol rfl (lo_pick_t (v := .bool _) rfl h11 rfl) (ow_nil (seqK_n (cw_cond rfl (fun h15 => ?_) (fun h15 => ?_))))
    · have p16 := dt h15
      refine cw_skip (seqK_n (cw_seq (cw_block (cw_region (ol rfl (lo_move rfl) ?_)))))
      refine ol rfl (lo_move (v := .pointer (some ⟨_, _, none⟩)) rfl) ?_
      refine ow1 (op1_pm 0 rfl (deed_read _ b3 j (hML.mono ((HLe.refl _).trans hl10))) (en_f cb51 rfl) rfl ?_)
      rintro _ H25 _ ⟨a18, c19, a21, c22, rfl, rfl, hs20, hs23⟩ hl24
      generalize hq26 : readD j = q17
      simp only [hq26] at hs20 hs23
      have hf27 := readD_wf j
      simp only [hq26] at hf27
      refine ow1 (op1_bslice (cs := [_, _, _, _, _, _, _, _, _, _, _, _, _, _, _, _, _, _, _, _, _, _, _, _, _, _, _, _, _]) 1 rfl Tryz.underlying23 sz106 zx106 rfl ⟨rfl, rfl, trivial⟩ rfl rfl (by decide) (fun b28 => ?_))
      refine ow1 (op1_app 9 rfl rfl Tryz.underlying23 Tryz.underlying23 rfl sz106 by106 (by decide) zr106 ho (src_bx (i := 1) rfl rfl) (List.all_eq_true.1 rfl) rfl (by omega) rfl (fun v29 en30 ho31 => ?_))
      have ho32 := ownV_cast (len' := (out ++ [q17.1]).length) ho31 (by simp) rfl
      have hrl33 : Rl deedRE _ (out ++ [q17.1]) _ := rl_app (hw.mono deedRE_mono ((HLe.refl _).trans hl24)) (⟨_, _, rfl, ⟨a18, c19, a21, c22, rfl, hs20, hs23, hf27⟩, rl_nil⟩)
      refine ol rfl (lo_assign rfl) (ow_nil (blkK_n (seqK_n (cw_region (omi rfl rfl ?_)))))
      refine ol rfl (lo_sub rfl rfl (rg_u64 (by omega))) (oai rfl rfl (ow_nil ?_))
      refine next6 (m - 1) q17.2 (out ++ [q17.1]) v29 en30 (cs ++ [.int .u8 q17.1.kind, .int .u64 q17.1.tick, str q17.1.shop.name, .int .u8 q17.1.shop.sort, str q17.1.shop.to, str q17.1.queue.name, .int .u64 q17.1.queue.most, .int .u64 q17.1.queue.life, str q17.1.queue.dead, str q17.1.bind.shop, str q17.1.bind.to, .bool q17.1.bind.up, str q17.1.bind.key, (.slice a18 q17.1.bind.want.length c19), .bool q17.1.bind.all, str q17.1.name, .int .u64 q17.1.id, .int .u8 q17.1.how, .int .u8 q17.1.frm, .int .u8 q17.1.code, .int .u64 q17.1.number, .int .u64 q17.1.mail.id, str q17.1.mail.shop, str q17.1.mail.key, (.slice a21 q17.1.mail.head.length c22), str q17.1.mail.body, .int .u64 q17.1.mail.due, .int .u8 q17.1.mail.hops, str q17.1.text]) (upd_intro (upd_intro (mask_intro (by first | exact off_refl | (repeat (first | exact off_mask | refine off_upd rfl ?_ | refine off_mask2 rfl ?_)))) (congrArg (Value.int .u64) (by omega))) rfl) (lupd_intro (lupd_intro (lmask_intro (by first | exact offl_refl | (repeat (first | exact offl_mask | refine offl_upd rfl ?_ | refine offl_mask2 rfl ?_)))) rfl) rfl) (hl10.trans hl24) ?_ ?_
      · refine ⟨?_, by omega, by simp; omega, ho32, hrl33⟩
        obtain ⟨z, rfl⟩ : ∃ z, m = z + 1 := ⟨m - 1, by omega⟩
        rw [hk1]
        conv => lhs; unfold unpackGo
        rw [if_pos (by omega), hq26]
        rfl
      omega
    have p34 := df h15
    refine cw_exit (seqK_e (loopK_e (blkK_hit (seqK_n (cw_seq ?_)))))
    refine cw_seq (cw_region (ol rfl (lo_move rfl) ?_))
    obtain ⟨a35, c36, rfl⟩ := own_shape ho
    refine ow1 (op1_prl 9 rfl (fun _ hl37 hg38 => (deed_Pack _ a35 out.length c36 out (slh_ownE (E := deedRE) deedRE_wide ho (hw.mono deedRE_mono ((HLe.refl _).trans hl37)) hg38) (hML.mono (((HLe.refl _).trans hl10).trans hl37)))) (en_f cb14 rfl) rfl ?_)
    have hpr := packD_r out
    refine ol rfl (lo_move (v := .tuple #[_, _]) rfl) (ol rfl (lo_extract (v := str _) rfl rfl) (ol rfl (lo_extract (v := .int _ _) rfl rfl) (ol rfl (lo_assign (v := str _) rfl) (oai rfl rfl (ow_nil ?_)))))
    refine seqK_n (cw_seq (cw_region (ol rfl (lo_move (v := .pointer (some ⟨_, _, none⟩)) rfl) ?_)))
    refine ow1 (op1_pm 0 rfl (in_End _ b3 j) (en_f cb52 rfl) rfl ?_)
    rintro _ _ _ ⟨rfl, rfl, rfl⟩ _
    refine ol rfl (lo_neq rfl rfl) (omb rfl rfl (ow_sp (j := 3) rfl (fun h41 => ?_) (fun h41 => ?_)))
    · have h42 := not_t h41
      have p43 := df h42
      refine og rfl h41 rfl (og rfl h41 rfl (ol rfl (lo_pick_t (v := .bool _) rfl h41 rfl) (omb rfl rfl (og rfl rfl rfl (og rfl rfl rfl ?_)))))
      refine og rfl rfl rfl (ol rfl (lo_pick_t (v := .bool _) rfl rfl rfl) (ow_nil (seqK_n (cw_cond_t rfl rfl (cw_seq ?_)))))
      refine cw_region (ol rfl (lo_assign (v := .slice _ _ _) rfl) (oai rfl rfl (ow_nil (seqK_n (cw_ret ?_)))))
      refine seqK_r (fnK_r (res2 rfl (rv_t (v := .slice _ _ _) rfl) (rv_t (v := .int _ _) rfl)) ((HLe.refl _).trans hl10) ?_)
      have hR : unpackGo (inNum ⟨text, 0⟩ 1).1.toNat (inNum ⟨text, 0⟩ 1).2 [] = (out, j) := by rw [hk1]; exact unpackGo_end (by omega)
      have e : unpackD text = ([], 4) := by
        unfold unpackD
        simp only [hR]
        refine if_neg fun hh => ?_
        obtain ⟨h1, h2, h3⟩ := hh
        first | omega | (simp [*] at *; done)
      rw [e]
      exact ⟨none, 0, rfl, slh_nil⟩
    have h44 := not_f h41
    have p45 := dt h44
    refine ow1 (op1_g rfl h41 rfl (lo_move (v := .int _ _) rfl) ?_)
    refine ow1 (op1_g rfl h41 rfl (lo_neq rfl rfl) ?_)
    refine ol rfl (lo_pick_f (v := .bool _) rfl h41 rfl) (omb rfl rfl (ow_sp (j := 7) rfl (fun h46 => ?_) (fun h46 => ?_)))
    · have h47 := not_t h46
      have p48 := df h47
      refine og rfl h46 rfl (og rfl h46 rfl (og rfl h46 rfl (ol rfl (lo_pick_t (v := .bool _) rfl h46 rfl) (ow_nil (seqK_n ?_)))))
      refine cw_cond_t rfl rfl (cw_seq (cw_region (ol rfl (lo_assign (v := .slice _ _ _) rfl) (oai rfl rfl (ow_nil ?_)))))
      refine seqK_n (cw_ret (seqK_r (fnK_r (res2 rfl (rv_t (v := .slice _ _ _) rfl) (rv_t (v := .int _ _) rfl)) ((HLe.refl _).trans hl10) ?_)))
      have hR : unpackGo (inNum ⟨text, 0⟩ 1).1.toNat (inNum ⟨text, 0⟩ 1).2 [] = (out, j) := by rw [hk1]; exact unpackGo_end (by omega)
      have e : unpackD text = ([], 4) := by
        unfold unpackD
        simp only [hR]
        refine if_neg fun hh => ?_
        obtain ⟨h1, h2, h3⟩ := hh
        first | omega | (simp [*] at *; done)
      rw [e]
      exact ⟨none, 0, rfl, slh_nil⟩
    have h49 := not_f h46
    have p50 := dt h49
    refine ow1 (op1_g rfl h46 rfl (lo_move (v := str _) rfl) ?_)
    refine ow1 (op1_g rfl h46 rfl (lo_move (v := str _) rfl) ?_)
    refine ow1 (op1_g rfl h46 rfl (lo_sneq rfl rfl) ?_)
    refine ol rfl (lo_pick_f (v := .bool _) rfl h46 rfl) (ow_nil (seqK_n (cw_cond rfl (fun h51 => ?_) (fun h51 => ?_))))
    · have h52 := not_t h51
      have p53 := df h52
      refine cw_seq (cw_region (ol rfl (lo_assign (v := .slice _ _ _) rfl) (oai rfl rfl (ow_nil (seqK_n ?_)))))
      refine cw_ret (seqK_r (fnK_r (res2 rfl (rv_t (v := .slice _ _ _) rfl) (rv_t (v := .int _ _) rfl)) ((HLe.refl _).trans hl10) ?_))
      have hR : unpackGo (inNum ⟨text, 0⟩ 1).1.toNat (inNum ⟨text, 0⟩ 1).2 [] = (out, j) := by rw [hk1]; exact unpackGo_end (by omega)
      have e : unpackD text = ([], 4) := by
        unfold unpackD
        simp only [hR]
        refine if_neg fun hh => ?_
        obtain ⟨h1, h2, h3⟩ := hh
        first | omega | (simp [*] at *; done)
      rw [e]
      exact ⟨none, 0, rfl, slh_nil⟩
    have h54 := not_f h51
    have p55 := dt h54
    refine cw_skip (seqK_n (cw_seq (cw_region (ol rfl (lo_move rfl) (ol rfl (lo_assign rfl) ?_)))))
    refine oai rfl rfl (ow_nil (seqK_n (cw_giveO 9 rfl (fun _ hl56 hg57 => ?_))))
    have hs58 := slh_ownE (E := deedRE) deedRE_wide ho (hw.mono deedRE_mono ((HLe.refl _).trans hl56)) hg57
    refine cw_ret (fnK_r (res2 rfl (rv_t (v := .slice _ _ _) rfl) (rv_t (v := .int _ _) rfl)) (((HLe.refl _).trans hl10).trans hl56) ?_)
    have hR : unpackGo (inNum ⟨text, 0⟩ 1).1.toNat (inNum ⟨text, 0⟩ 1).2 [] = (out, j) := by rw [hk1]; exact unpackGo_end (by omega)
    have e : unpackD text = (out, 0) := by
      unfold unpackD
      simp only [hR]
      exact if_pos ⟨by omega, by omega, by assumption⟩
    rw [e]
    exact ⟨_, _, rfl, hs58⟩
  have p61 := df h11
  refine og rfl h11 rfl (og rfl h11 rfl (og rfl h11 rfl (ol rfl (lo_pick_f (v := .bool _) rfl h11 rfl) (ow_nil (seqK_n ?_)))))
  refine cw_cond_f rfl rfl (cw_exit (seqK_e (loopK_e (blkK_hit (seqK_n ?_)))))
  refine cw_seq (cw_seq (cw_region (ol rfl (lo_move rfl) ?_)))
  obtain ⟨a62, c63, rfl⟩ := own_shape ho
  refine ow1 (op1_prl 9 rfl (fun _ hl64 hg65 => (deed_Pack _ a62 out.length c63 out (slh_ownE (E := deedRE) deedRE_wide ho (hw.mono deedRE_mono ((HLe.refl _).trans hl64)) hg65) (hML.mono (((HLe.refl _).trans hl10).trans hl64)))) (en_f cb14 rfl) rfl ?_)
  have hpr := packD_r out
  refine ol rfl (lo_move (v := .tuple #[_, _]) rfl) (ol rfl (lo_extract (v := str _) rfl rfl) (ol rfl (lo_extract (v := .int _ _) rfl rfl) (ol rfl (lo_assign (v := str _) rfl) (oai rfl rfl (ow_nil ?_)))))
  refine seqK_n (cw_seq (cw_region (ol rfl (lo_move (v := .pointer (some ⟨_, _, none⟩)) rfl) ?_)))
  refine ow1 (op1_pm 0 rfl (in_End _ b3 j) (en_f cb52 rfl) rfl ?_)
  rintro _ _ _ ⟨rfl, rfl, rfl⟩ _
  refine ol rfl (lo_neq rfl rfl) (omb rfl rfl (ow_sp (j := 3) rfl (fun h68 => ?_) (fun h68 => ?_)))
  · have h69 := not_t h68
    have p70 := df h69
    refine og rfl h68 rfl (og rfl h68 rfl (ol rfl (lo_pick_t (v := .bool _) rfl h68 rfl) (omb rfl rfl (og rfl rfl rfl (og rfl rfl rfl ?_)))))
    refine og rfl rfl rfl (ol rfl (lo_pick_t (v := .bool _) rfl rfl rfl) (ow_nil (seqK_n (cw_cond_t rfl rfl (cw_seq ?_)))))
    refine cw_region (ol rfl (lo_assign (v := .slice _ _ _) rfl) (oai rfl rfl (ow_nil (seqK_n (cw_ret ?_)))))
    refine seqK_r (fnK_r (res2 rfl (rv_t (v := .slice _ _ _) rfl) (rv_t (v := .int _ _) rfl)) ((HLe.refl _).trans hl10) ?_)
    have hR : unpackGo (inNum ⟨text, 0⟩ 1).1.toNat (inNum ⟨text, 0⟩ 1).2 [] = (out, j) := by rw [hk1]; exact unpackGo_end (by omega)
    have e : unpackD text = ([], 4) := by
      unfold unpackD
      simp only [hR]
      refine if_neg fun hh => ?_
      obtain ⟨h1, h2, h3⟩ := hh
      first | omega | (simp [*] at *; done)
    rw [e]
    exact ⟨none, 0, rfl, slh_nil⟩
  have h71 := not_f h68
  have p72 := dt h71
  refine ow1 (op1_g rfl h68 rfl (lo_move (v := .int _ _) rfl) ?_)
  refine ow1 (op1_g rfl h68 rfl (lo_neq rfl rfl) ?_)
  refine ol rfl (lo_pick_f (v := .bool _) rfl h68 rfl) (omb rfl rfl (ow_sp (j := 7) rfl (fun h73 => ?_) (fun h73 => ?_)))
  · have h74 := not_t h73
    have p75 := df h74
    refine og rfl h73 rfl (og rfl h73 rfl (og rfl h73 rfl (ol rfl (lo_pick_t (v := .bool _) rfl h73 rfl) (ow_nil (seqK_n ?_)))))
    refine cw_cond_t rfl rfl (cw_seq (cw_region (ol rfl (lo_assign (v := .slice _ _ _) rfl) (oai rfl rfl (ow_nil ?_)))))
    refine seqK_n (cw_ret (seqK_r (fnK_r (res2 rfl (rv_t (v := .slice _ _ _) rfl) (rv_t (v := .int _ _) rfl)) ((HLe.refl _).trans hl10) ?_)))
    have hR : unpackGo (inNum ⟨text, 0⟩ 1).1.toNat (inNum ⟨text, 0⟩ 1).2 [] = (out, j) := by rw [hk1]; exact unpackGo_end (by omega)
    have e : unpackD text = ([], 4) := by
      unfold unpackD
      simp only [hR]
      refine if_neg fun hh => ?_
      obtain ⟨h1, h2, h3⟩ := hh
      first | omega | (simp [*] at *; done)
    rw [e]
    exact ⟨none, 0, rfl, slh_nil⟩
  have h76 := not_f h73
  have p77 := dt h76
  refine ow1 (op1_g rfl h73 rfl (lo_move (v := str _) rfl) ?_)
  refine ow1 (op1_g rfl h73 rfl (lo_move (v := str _) rfl) ?_)
  refine ow1 (op1_g rfl h73 rfl (lo_sneq rfl rfl) ?_)
  refine ol rfl (lo_pick_f (v := .bool _) rfl h73 rfl) (ow_nil (seqK_n (cw_cond rfl (fun h78 => ?_) (fun h78 => ?_))))
  · have h79 := not_t h78
    have p80 := df h79
    refine cw_seq (cw_region (ol rfl (lo_assign (v := .slice _ _ _) rfl) (oai rfl rfl (ow_nil (seqK_n ?_)))))
    refine cw_ret (seqK_r (fnK_r (res2 rfl (rv_t (v := .slice _ _ _) rfl) (rv_t (v := .int _ _) rfl)) ((HLe.refl _).trans hl10) ?_))
    have hR : unpackGo (inNum ⟨text, 0⟩ 1).1.toNat (inNum ⟨text, 0⟩ 1).2 [] = (out, j) := by rw [hk1]; exact unpackGo_end (by omega)
    have e : unpackD text = ([], 4) := by
      unfold unpackD
      simp only [hR]
      refine if_neg fun hh => ?_
      obtain ⟨h1, h2, h3⟩ := hh
      first | omega | (simp [*] at *; done)
    rw [e]
    exact ⟨none, 0, rfl, slh_nil⟩
  have h81 := not_f h78
  have p82 := dt h81
  refine cw_skip (seqK_n (cw_seq (cw_region (ol rfl (lo_move rfl) (ol rfl (lo_assign rfl) ?_)))))
  refine oai rfl rfl (ow_nil (seqK_n (cw_giveO 9 rfl (fun _ hl83 hg84 => ?_))))
  have hs85 := slh_ownE (E := deedRE) deedRE_wide ho (hw.mono deedRE_mono ((HLe.refl _).trans hl83)) hg84
  refine cw_ret (fnK_r (res2 rfl (rv_t (v := .slice _ _ _) rfl) (rv_t (v := .int _ _) rfl)) (((HLe.refl _).trans hl10).trans hl83) ?_)
  have hR : unpackGo (inNum ⟨text, 0⟩ 1).1.toNat (inNum ⟨text, 0⟩ 1).2 [] = (out, j) := by rw [hk1]; exact unpackGo_end (by omega)
  have e : unpackD text = (out, 0) := by
    unfold unpackD
    simp only [hR]
    exact if_pos ⟨by omega, by omega, by assumption⟩
  rw [e]
  exact ⟨_, _, rfl, hs85⟩
theorem r22_Unpack (H : Hp) (text : Bs) (hs : text.length ≤ 4611686018427387904) : Ph Tryz.prog 11 #[str text] H (fun v H' => ∃ (a1 : Option Addr) (c1 : Nat), v = .tuple #[.slice a1 ((unpackD text).1).length c1, .int .i64 ((unpackD text).2)] ∧ SlH deedRE 29 H' (.slice a1 ((unpackD text).1).length c1) ((unpackD text).1)) := by
  refine ph_cw Tryz.func11 rfl Tryz.ntmps11 rfl (fun N => ?_)
  refine cw_seq (cw_region (ol rfl (lo_assign (v := .slice _ _ _) rfl) (oai rfl rfl (ow_nil (seqK_n ?_)))))
  refine cw_seq (cw_region (ol rfl (lo_move (v := str _) rfl) (ol rfl (lo_build (v := .agg #[_, _, _]) rfl (bd114_0s _)) (ow1 (op1_box (cs := [_, _, _]) 0 rfl rfl (fun b1 => ?_))))))
  refine ol rfl (lo_assign (v := .pointer (some ⟨_, _, none⟩)) rfl) (ow_nil (seqK_n (cw_seq (cw_region (ol rfl (lo_move (v := .pointer (some ⟨_, _, none⟩)) rfl) ?_)))))
  refine ow1 (op1_pm 0 rfl (rin_Num _ b1 (⟨text, 0, 0⟩ : RIn) (⟨text, 0⟩ : In) (RSt.new _ (by omega)) 1 (by omega)) (en_f cb53 rfl) rfl ?_)
  rintro _ _ _ ⟨j5, rfl, rfl, rfl, hj6⟩ _
  generalize hq7 : inNum (⟨text, 0⟩ : In) 1 = q2 at hj6 ⊢
  have := hj6.err
  have := hj6.lo
  have := hj6.hi
  have := hj6.len
  have hf8 := inNum_r (⟨text, 0⟩ : In) 1
  simp only [hq7] at hf8
  refine ol rfl (lo_conv_in rfl (by rw [Tryz.underlying39]; rfl) Tryz.underlying3 (rg_i64 (by omega))) (oai rfl rfl (ow_nil (seqK_n (cw_seq (cw_region ?_)))))
  refine ol rfl (lo_assign (v := .slice _ _ _) rfl) (ow_nil (seqK_n (cw_seq (cw_seq (cw_region ?_)))))
  refine oai rfl rfl (ow_nil (seqK_n (cw_block ?_)))
  refine cw_loop7 [6, 7, 16, 17, 18, 19, 20, 21, 22, 23, 24, 25, 26, 27, 28, 29, 30, 31, 32] [0, 1, 9] (fun (k : Nat) (jr : RIn) (j : In) (out : List DeedR) (v : Value) (en : Option (Nat × Obj)) (cs : List Value) G => upd (upd (G) 7 (.int .i64 (k : Int))) 6 (v)) (fun (k : Nat) (jr : RIn) (j : In) (out : List DeedR) (v : Value) (en : Option (Nat × Obj)) (cs : List Value) G => lupd (lupd (G) 0 (some (b1, bx 114 (RIn.cells jr)))) 9 (en)) (fun (k : Nat) (jr : RIn) (j : In) (out : List DeedR) (v : Value) (en : Option (Nat × Obj)) (cs : List Value) H' => unpackGo (inNum ⟨text, 0⟩ 1).1.toNat (inNum ⟨text, 0⟩ 1).2 [] = unpackGo (q2.1.toNat - k) j out ∧ k ≤ 255 ∧ out.length ≤ k ∧ RSt jr j ∧ OwnV 29 119 v en out.length cs ∧ Rl deedRE H' out cs) (fun (k : Nat) (jr : RIn) (j : In) (out : List DeedR) (v : Value) (en : Option (Nat × Obj)) (cs : List Value) => 256 - k) 0 j5 q2.2 [] (.slice none 0 0) none [] (upd_intro (upd_intro (mask_intro (by first | exact off_refl | (repeat (first | exact off_mask | refine off_upd rfl ?_ | refine off_mask2 rfl ?_)))) rfl) rfl) (lupd_intro (lupd_intro (lmask_intro offl_refl) rfl) rfl) ?_ ?_
  · refine ⟨by rw [hq7]; rfl, by omega, Nat.zero_le _, hj6, ownV_nil, rl_nil⟩
  intro k jr j out v en cs J10 JL10 H10 hp9 hl10
  obtain ⟨hk1, hk2, hk3, hj, ho, hw⟩ := hp9
  have := hj.err
  have := hj.lo
  have := hj.hi
  have := hj.len
  refine cw_seq (cw_seq (cw_region (omi rfl rfl (omi rfl rfl (ol rfl (lo_lss rfl rfl) ?_)))))
  refine omb rfl rfl (ow_sp (j := 3) rfl (fun h11 => ?_) (fun h11 => ?_))
  · have p12 := dt h11
    refine ow1 (op1_g rfl h11 rfl (lo_move (v := .pointer (some ⟨_, _, none⟩)) rfl) ?_)
    refine ow1 (op1_g rfl h11 rfl (lo_nilCheck rfl) ?_)
    refine ow1 (op1_g rfl h11 rfl (lo_fieldAddr rfl fl114_2) ?_)
    refine ow1 (op1_g rfl h11 rfl (lo_load1 (i := 0) (v := .int _ _) rfl ag3 rfl rfl) ?_)
    refine ow1 (op1_g rfl h11 rfl (lo_eql rfl rfl) ?_)
    refine ol rfl (lo_pick_t (v := .bool _) rfl h11 rfl) (ow_nil (seqK_n (cw_cond rfl (fun h13 => ?_) (fun h13 => ?_))))
    · have p14 := dt h13
      refine cw_skip (seqK_n (cw_seq (cw_block (cw_region (ol rfl (lo_move rfl) ?_)))))
      refine ol rfl (lo_move (v := .pointer (some ⟨_, _, none⟩)) rfl) ?_
      refine ow1 (op1_pm 0 rfl (r22_read _ b1 jr j hj) (en_f cb54 rfl) rfl ?_)
      rintro _ H23 _ ⟨a16, c17, a19, c20, j24, rfl, rfl, hs18, hs21, hj25⟩ hl22
      generalize hq26 : readD j = q15 at hj25 hs18 hs21 ⊢
      have := hj25.err
      have := hj25.lo
      have := hj25.hi
      have := hj25.len
      have hf27 := readD_wf j
      simp only [hq26] at hf27
      refine ow1 (op1_bslice (cs := [_, _, _, _, _, _, _, _, _, _, _, _, _, _, _, _, _, _, _, _, _, _, _, _, _, _, _, _, _]) 1 rfl Tryz.underlying27 sz119 zx119 rfl ⟨rfl, rfl, trivial⟩ rfl rfl (by decide) (fun b28 => ?_))
      refine ow1 (op1_app 9 rfl rfl Tryz.underlying27 Tryz.underlying27 rfl sz119 by119 (by decide) zr119 ho (src_bx (i := 1) rfl rfl) (List.all_eq_true.1 rfl) rfl (by omega) rfl (fun v29 en30 ho31 => ?_))
      have ho32 := ownV_cast (len' := (out ++ [q15.1]).length) ho31 (by simp) rfl
      have hrl33 : Rl deedRE _ (out ++ [q15.1]) _ := rl_app (hw.mono deedRE_mono ((HLe.refl _).trans hl22)) (⟨_, _, rfl, ⟨a16, c17, a19, c20, rfl, hs18, hs21, hf27⟩, rl_nil⟩)
      refine ol rfl (lo_assign rfl) (ow_nil (blkK_n (seqK_n (cw_region (omi rfl rfl ?_)))))
      refine ol rfl (lo_add rfl rfl (rg_i64 (by omega))) (oai rfl rfl (ow_nil ?_))
      refine next7 (k + 1) j24 q15.2 (out ++ [q15.1]) v29 en30 (cs ++ [.int .u8 q15.1.kind, .int .u64 q15.1.tick, str q15.1.shop.name, .int .u8 q15.1.shop.sort, str q15.1.shop.to, str q15.1.queue.name, .int .u64 q15.1.queue.most, .int .u64 q15.1.queue.life, str q15.1.queue.dead, str q15.1.bind.shop, str q15.1.bind.to, .bool q15.1.bind.up, str q15.1.bind.key, (.slice a16 q15.1.bind.want.length c17), .bool q15.1.bind.all, str q15.1.name, .int .u64 q15.1.id, .int .u8 q15.1.how, .int .u8 q15.1.frm, .int .u8 q15.1.code, .int .u64 q15.1.number, .int .u64 q15.1.mail.id, str q15.1.mail.shop, str q15.1.mail.key, (.slice a19 q15.1.mail.head.length c20), str q15.1.mail.body, .int .u64 q15.1.mail.due, .int .u8 q15.1.mail.hops, str q15.1.text]) (upd_intro (upd_intro (mask_intro (by first | exact off_refl | (repeat (first | exact off_mask | refine off_upd rfl ?_ | refine off_mask2 rfl ?_)))) rfl) rfl) (lupd_intro (lupd_intro (lmask_intro (by first | exact offl_refl | (repeat (first | exact offl_mask | refine offl_upd rfl ?_ | refine offl_mask2 rfl ?_)))) rfl) rfl) (hl10.trans hl22) ?_ ?_
      · refine ⟨?_, by omega, by simp; omega, hj25, ho32, hrl33⟩
        rw [hk1, show q2.1.toNat - k = (q2.1.toNat - (k + 1)) + 1 by omega]
        conv => lhs; unfold unpackGo
        rw [if_pos (by omega), hq26]
      omega
    have p34 := df h13
    refine cw_exit (seqK_e (loopK_e (blkK_hit (seqK_n (cw_seq ?_)))))
    refine cw_region (ol rfl (lo_move rfl) ?_)
    obtain ⟨a35, c36, rfl⟩ := own_shape ho
    refine ow1 (op1_prl 9 rfl (fun _ hl37 hg38 => (r22_Pack _ a35 out.length c36 out (slh_ownE (E := deedRE) deedRE_wide ho (hw.mono deedRE_mono ((HLe.refl _).trans hl37)) hg38))) (en_f cb55 rfl) rfl ?_)
    have hpr := packD_r out
    refine ol rfl (lo_move (v := .tuple #[_, _]) rfl) (ol rfl (lo_extract (v := str _) rfl rfl) (ol rfl (lo_extract (v := .int _ _) rfl rfl) (ol rfl (lo_assign (v := str _) rfl) (oai rfl rfl (ow_nil ?_)))))
    refine seqK_n (cw_seq (cw_seq (cw_region (ol rfl (lo_move (v := .pointer (some ⟨_, _, none⟩)) rfl) ?_))))
    refine ow1 (op1_pm 0 rfl (rin_End _ b1 jr j hj) (en_f cb56 rfl) rfl ?_)
    rintro _ _ _ ⟨j41, rfl, rfl, rfl, hj42⟩ _
    have := hj42.err
    have := hj42.lo
    have := hj42.hi
    have := hj42.len
    refine ol rfl (lo_neq rfl rfl) (omb rfl rfl (ow_sp (j := 3) rfl (fun h43 => ?_) (fun h43 => ?_)))
    · have h44 := not_t h43
      have p45 := df h44
      refine og rfl h43 rfl (og rfl h43 rfl (ol rfl (lo_pick_t (v := .bool _) rfl h43 rfl) (omb rfl rfl (og rfl rfl rfl (og rfl rfl rfl ?_)))))
      refine og rfl rfl rfl (ol rfl (lo_pick_t (v := .bool _) rfl rfl rfl) (ow_nil (seqK_n (cw_cond_t rfl rfl (cw_seq ?_)))))
      refine cw_region (ol rfl (lo_assign (v := .slice _ _ _) rfl) (oai rfl rfl (ow_nil (seqK_n (cw_ret ?_)))))
      refine seqK_r (fnK_r (res2 rfl (rv_t (v := .slice _ _ _) rfl) (rv_t (v := .int _ _) rfl)) ((HLe.refl _).trans hl10) ?_)
      have hR : unpackGo (inNum ⟨text, 0⟩ 1).1.toNat (inNum ⟨text, 0⟩ 1).2 [] = (out, j) := by rw [hk1]; exact unpackGo_end (by omega)
      have e : unpackD text = ([], 4) := by
        unfold unpackD
        simp only [hR]
        refine if_neg fun hh => ?_
        obtain ⟨h1, h2, h3⟩ := hh
        first | omega | (simp [*] at *; done)
      rw [e]
      exact ⟨none, 0, rfl, slh_nil⟩
    have h46 := not_f h43
    have p47 := dt h46
    refine ow1 (op1_g rfl h43 rfl (lo_move (v := .int _ _) rfl) ?_)
    refine ow1 (op1_g rfl h43 rfl (lo_neq rfl rfl) ?_)
    refine ol rfl (lo_pick_f (v := .bool _) rfl h43 rfl) (omb rfl rfl (ow_sp (j := 7) rfl (fun h48 => ?_) (fun h48 => ?_)))
    · have h49 := not_t h48
      have p50 := df h49
      refine og rfl h48 rfl (og rfl h48 rfl (og rfl h48 rfl (ol rfl (lo_pick_t (v := .bool _) rfl h48 rfl) (ow_nil (seqK_n ?_)))))
      refine cw_cond_t rfl rfl (cw_seq (cw_region (ol rfl (lo_assign (v := .slice _ _ _) rfl) (oai rfl rfl (ow_nil ?_)))))
      refine seqK_n (cw_ret (seqK_r (fnK_r (res2 rfl (rv_t (v := .slice _ _ _) rfl) (rv_t (v := .int _ _) rfl)) ((HLe.refl _).trans hl10) ?_)))
      have hR : unpackGo (inNum ⟨text, 0⟩ 1).1.toNat (inNum ⟨text, 0⟩ 1).2 [] = (out, j) := by rw [hk1]; exact unpackGo_end (by omega)
      have e : unpackD text = ([], 4) := by
        unfold unpackD
        simp only [hR]
        refine if_neg fun hh => ?_
        obtain ⟨h1, h2, h3⟩ := hh
        first | omega | (simp [*] at *; done)
      rw [e]
      exact ⟨none, 0, rfl, slh_nil⟩
    have h51 := not_f h48
    have p52 := dt h51
    refine ow1 (op1_g rfl h48 rfl (lo_move (v := str _) rfl) ?_)
    refine ow1 (op1_g rfl h48 rfl (lo_move (v := str _) rfl) ?_)
    refine ow1 (op1_g rfl h48 rfl (lo_sneq rfl rfl) ?_)
    refine ol rfl (lo_pick_f (v := .bool _) rfl h48 rfl) (ow_nil (seqK_n (cw_cond rfl (fun h53 => ?_) (fun h53 => ?_))))
    · have h54 := not_t h53
      have p55 := df h54
      refine cw_seq (cw_region (ol rfl (lo_assign (v := .slice _ _ _) rfl) (oai rfl rfl (ow_nil (seqK_n ?_)))))
      refine cw_ret (seqK_r (fnK_r (res2 rfl (rv_t (v := .slice _ _ _) rfl) (rv_t (v := .int _ _) rfl)) ((HLe.refl _).trans hl10) ?_))
      have hR : unpackGo (inNum ⟨text, 0⟩ 1).1.toNat (inNum ⟨text, 0⟩ 1).2 [] = (out, j) := by rw [hk1]; exact unpackGo_end (by omega)
      have e : unpackD text = ([], 4) := by
        unfold unpackD
        simp only [hR]
        refine if_neg fun hh => ?_
        obtain ⟨h1, h2, h3⟩ := hh
        first | omega | (simp [*] at *; done)
      rw [e]
      exact ⟨none, 0, rfl, slh_nil⟩
    have h56 := not_f h53
    have p57 := dt h56
    refine cw_skip (seqK_n (cw_seq (cw_region (ol rfl (lo_move rfl) (ol rfl (lo_assign rfl) ?_)))))
    refine oai rfl rfl (ow_nil (seqK_n (cw_giveO 9 rfl (fun _ hl58 hg59 => ?_))))
    have hs60 := slh_ownE (E := deedRE) deedRE_wide ho (hw.mono deedRE_mono ((HLe.refl _).trans hl58)) hg59
    refine cw_ret (fnK_r (res2 rfl (rv_t (v := .slice _ _ _) rfl) (rv_t (v := .int _ _) rfl)) (((HLe.refl _).trans hl10).trans hl58) ?_)
    have hR : unpackGo (inNum ⟨text, 0⟩ 1).1.toNat (inNum ⟨text, 0⟩ 1).2 [] = (out, j) := by rw [hk1]; exact unpackGo_end (by omega)
    have e : unpackD text = (out, 0) := by
      unfold unpackD
      simp only [hR]
      exact if_pos ⟨by omega, by omega, by assumption⟩
    rw [e]
    exact ⟨_, _, rfl, hs60⟩
  have p63 := df h11
  refine og rfl h11 rfl (og rfl h11 rfl (og rfl h11 rfl (og rfl h11 rfl (og rfl h11 rfl (ol rfl (lo_pick_f (v := .bool _) rfl h11 rfl) ?_)))))
  refine ow_nil (seqK_n (cw_cond_f rfl rfl (cw_exit (seqK_e (loopK_e ?_)))))
  refine blkK_hit (seqK_n (cw_seq (cw_region (ol rfl (lo_move rfl) ?_))))
  obtain ⟨a64, c65, rfl⟩ := own_shape ho
  refine ow1 (op1_prl 9 rfl (fun _ hl66 hg67 => (r22_Pack _ a64 out.length c65 out (slh_ownE (E := deedRE) deedRE_wide ho (hw.mono deedRE_mono ((HLe.refl _).trans hl66)) hg67))) (en_f cb55 rfl) rfl ?_)
  have hpr := packD_r out
  refine ol rfl (lo_move (v := .tuple #[_, _]) rfl) (ol rfl (lo_extract (v := str _) rfl rfl) (ol rfl (lo_extract (v := .int _ _) rfl rfl) (ol rfl (lo_assign (v := str _) rfl) (oai rfl rfl (ow_nil ?_)))))
  refine seqK_n (cw_seq (cw_seq (cw_region (ol rfl (lo_move (v := .pointer (some ⟨_, _, none⟩)) rfl) ?_))))
  refine ow1 (op1_pm 0 rfl (rin_End _ b1 jr j hj) (en_f cb56 rfl) rfl ?_)
  rintro _ _ _ ⟨j70, rfl, rfl, rfl, hj71⟩ _
  have := hj71.err
  have := hj71.lo
  have := hj71.hi
  have := hj71.len
  refine ol rfl (lo_neq rfl rfl) (omb rfl rfl (ow_sp (j := 3) rfl (fun h72 => ?_) (fun h72 => ?_)))
  · have h73 := not_t h72
    have p74 := df h73
    refine og rfl h72 rfl (og rfl h72 rfl (ol rfl (lo_pick_t (v := .bool _) rfl h72 rfl) (omb rfl rfl (og rfl rfl rfl (og rfl rfl rfl ?_)))))
    refine og rfl rfl rfl (ol rfl (lo_pick_t (v := .bool _) rfl rfl rfl) (ow_nil (seqK_n (cw_cond_t rfl rfl (cw_seq ?_)))))
    refine cw_region (ol rfl (lo_assign (v := .slice _ _ _) rfl) (oai rfl rfl (ow_nil (seqK_n (cw_ret ?_)))))
    refine seqK_r (fnK_r (res2 rfl (rv_t (v := .slice _ _ _) rfl) (rv_t (v := .int _ _) rfl)) ((HLe.refl _).trans hl10) ?_)
    have hR : unpackGo (inNum ⟨text, 0⟩ 1).1.toNat (inNum ⟨text, 0⟩ 1).2 [] = (out, j) := by rw [hk1]; exact unpackGo_end (by omega)
    have e : unpackD text = ([], 4) := by
      unfold unpackD
      simp only [hR]
      refine if_neg fun hh => ?_
      obtain ⟨h1, h2, h3⟩ := hh
      first | omega | (simp [*] at *; done)
    rw [e]
    exact ⟨none, 0, rfl, slh_nil⟩
  have h75 := not_f h72
  have p76 := dt h75
  refine ow1 (op1_g rfl h72 rfl (lo_move (v := .int _ _) rfl) ?_)
  refine ow1 (op1_g rfl h72 rfl (lo_neq rfl rfl) ?_)
  refine ol rfl (lo_pick_f (v := .bool _) rfl h72 rfl) (omb rfl rfl (ow_sp (j := 7) rfl (fun h77 => ?_) (fun h77 => ?_)))
  · have h78 := not_t h77
    have p79 := df h78
    refine og rfl h77 rfl (og rfl h77 rfl (og rfl h77 rfl (ol rfl (lo_pick_t (v := .bool _) rfl h77 rfl) (ow_nil (seqK_n ?_)))))
    refine cw_cond_t rfl rfl (cw_seq (cw_region (ol rfl (lo_assign (v := .slice _ _ _) rfl) (oai rfl rfl (ow_nil ?_)))))
    refine seqK_n (cw_ret (seqK_r (fnK_r (res2 rfl (rv_t (v := .slice _ _ _) rfl) (rv_t (v := .int _ _) rfl)) ((HLe.refl _).trans hl10) ?_)))
    have hR : unpackGo (inNum ⟨text, 0⟩ 1).1.toNat (inNum ⟨text, 0⟩ 1).2 [] = (out, j) := by rw [hk1]; exact unpackGo_end (by omega)
    have e : unpackD text = ([], 4) := by
      unfold unpackD
      simp only [hR]
      refine if_neg fun hh => ?_
      obtain ⟨h1, h2, h3⟩ := hh
      first | omega | (simp [*] at *; done)
    rw [e]
    exact ⟨none, 0, rfl, slh_nil⟩
  have h80 := not_f h77
  have p81 := dt h80
  refine ow1 (op1_g rfl h77 rfl (lo_move (v := str _) rfl) ?_)
  refine ow1 (op1_g rfl h77 rfl (lo_move (v := str _) rfl) ?_)
  refine ow1 (op1_g rfl h77 rfl (lo_sneq rfl rfl) ?_)
  refine ol rfl (lo_pick_f (v := .bool _) rfl h77 rfl) (ow_nil (seqK_n (cw_cond rfl (fun h82 => ?_) (fun h82 => ?_))))
  · have h83 := not_t h82
    have p84 := df h83
    refine cw_seq (cw_region (ol rfl (lo_assign (v := .slice _ _ _) rfl) (oai rfl rfl (ow_nil (seqK_n ?_)))))
    refine cw_ret (seqK_r (fnK_r (res2 rfl (rv_t (v := .slice _ _ _) rfl) (rv_t (v := .int _ _) rfl)) ((HLe.refl _).trans hl10) ?_))
    have hR : unpackGo (inNum ⟨text, 0⟩ 1).1.toNat (inNum ⟨text, 0⟩ 1).2 [] = (out, j) := by rw [hk1]; exact unpackGo_end (by omega)
    have e : unpackD text = ([], 4) := by
      unfold unpackD
      simp only [hR]
      refine if_neg fun hh => ?_
      obtain ⟨h1, h2, h3⟩ := hh
      first | omega | (simp [*] at *; done)
    rw [e]
    exact ⟨none, 0, rfl, slh_nil⟩
  have h85 := not_f h82
  have p86 := dt h85
  refine cw_skip (seqK_n (cw_seq (cw_region (ol rfl (lo_move rfl) (ol rfl (lo_assign rfl) ?_)))))
  refine oai rfl rfl (ow_nil (seqK_n (cw_giveO 9 rfl (fun _ hl87 hg88 => ?_))))
  have hs89 := slh_ownE (E := deedRE) deedRE_wide ho (hw.mono deedRE_mono ((HLe.refl _).trans hl87)) hg88
  refine cw_ret (fnK_r (res2 rfl (rv_t (v := .slice _ _ _) rfl) (rv_t (v := .int _ _) rfl)) (((HLe.refl _).trans hl10).trans hl87) ?_)
  have hR : unpackGo (inNum ⟨text, 0⟩ 1).1.toNat (inNum ⟨text, 0⟩ 1).2 [] = (out, j) := by rw [hk1]; exact unpackGo_end (by omega)
  have e : unpackD text = (out, 0) := by
    unfold unpackD
    simp only [hR]
    exact if_pos ⟨by omega, by omega, by assumption⟩
  rw [e]
  exact ⟨_, _, rfl, hs89⟩
end Go.SW
set_option linter.unusedVariables false
set_option maxRecDepth 100000
set_option maxHeartbeats 4000000
namespace Go.SW
open Go.Proofs
theorem cb10 : Callable Tryz.prog 10 := callable_of Tryz.func10 (by kernel_rfl) (by kernel_rfl)
theorem cb11 : Callable Tryz.prog 11 := callable_of Tryz.func11 (by kernel_rfl) (by kernel_rfl)
theorem cb12 : Callable Tryz.prog 12 := callable_of Tryz.func12 (by kernel_rfl) (by kernel_rfl)
theorem cb13 : Callable Tryz.prog 13 := callable_of Tryz.func13 (by kernel_rfl) (by kernel_rfl)
theorem deed_law_Reads (H : Hp) (text : Bs) (hML : GInt H 2) (hs : text.length ≤ 9223372036854775807) : Pr Tryz.prog 3 #[str text] H (.bool true) := by
  refine pr_cw Tryz.func3 rfl Tryz.ntmps3 rfl (fun N => ?_)
  refine cw_seq (cw_region (oab rfl rfl (ow_nil (seqK_n (cw_seq ?_)))))
  refine cw_seq (cw_region ?_)
  refine ow1 (op1_pr (l22_awake _ hML) (en_f cb9 rfl) rfl ?_)
  refine ol rfl (lo_not rfl) (ow_nil (seqK_n (cw_cond_f rfl rfl (cw_skip (seqK_n ?_)))))
  refine cw_seq (cw_seq (cw_region (ol rfl (lo_move (v := str _) rfl) (ol rfl (lo_len_str rfl Tryz.underlying9) (ol rfl (lo_gtr rfl rfl) ?_)))))
  refine ow_nil (seqK_n (cw_cond rfl (fun h1 => ?_) (fun h1 => ?_)))
  · have p2 := dt h1
    refine cw_seq (cw_region (oab rfl rfl (ow_nil (seqK_n (cw_ret ?_)))))
    refine seqK_r (fnK_r (res1 rfl (rv_t (v := .bool _) rfl)) (.refl _) ?_)
    have hl := unpackD_light text
    have ha : allD (unpackD text).1 = ((unpackD text).1, true) := by unfold allD; rw [if_pos hl]
    first
      | rfl
      | (exfalso; omega)
      | (exfalso; simp [ha] at *; done)
      | (refine congrArg Value.bool ?_; simp [ha]; done)
  have p3 := df h1
  refine cw_skip (seqK_n (cw_seq (cw_region (ol rfl (lo_move (v := str _) rfl) ?_))))
  refine ow1 (op1_ph (deed_Unpack _ text hML (by first | omega | (simp <;> omega))) (en_f cb10 rfl) rfl ?_)
  rintro _ H8 ⟨a4, c5, rfl, hs6⟩ hl7
  have hul8 := unpackD_len text
  refine ol rfl (lo_move (v := .tuple #[_, _]) rfl) (ol rfl (lo_extract (v := .slice _ _ _) rfl rfl) (ol rfl (lo_extract (v := .int _ _) rfl rfl) (ol rfl (lo_assign (v := .slice _ _ _) rfl) (oai rfl rfl (ow_nil ?_)))))
  refine seqK_n (cw_seq (cw_region (ol rfl (lo_move (v := str _) rfl) ?_)))
  refine ow1 (op1_ph (r22_Unpack _ text (by first | omega | (simp <;> omega))) (en_f cb11 rfl) rfl ?_)
  rintro _ H13 ⟨a9, c10, rfl, hs11⟩ hl12
  have hul13 := unpackD_len text
  refine ol rfl (lo_move (v := .tuple #[_, _]) rfl) (ol rfl (lo_extract (v := .slice _ _ _) rfl rfl) (ol rfl (lo_extract (v := .int _ _) rfl rfl) (ol rfl (lo_assign (v := .slice _ _ _) rfl) (oai rfl rfl (ow_nil ?_)))))
  refine seqK_n (cw_seq (cw_region (ol rfl (lo_move (v := .slice _ _ _) rfl) (ow1 (op1_ph (l22_All _ a4 (((unpackD text).1).length) c5 ((unpackD text).1) (hs6.mono ((HLe.refl _).trans hl12) (fun _ _ q => deedRE_mono _ _ _ _ ((HLe.refl _).trans hl12) q)) (by first | omega | (simp; done) | decide)) (en_f cb12 rfl) rfl ?_)))))
  rintro _ H18 ⟨a14, c15, rfl, hs16⟩ hl17
  have hal18 := allD_ok ((unpackD text).1)
  have hale18 := allD_le ((unpackD text).1)
  refine ol rfl (lo_move (v := .tuple #[_, _]) rfl) (ol rfl (lo_extract (v := .slice _ _ _) rfl rfl) (ol rfl (lo_extract (v := .bool _) rfl rfl) (ol rfl (lo_assign (v := .slice _ _ _) rfl) (oab rfl rfl (ow_nil ?_)))))
  refine seqK_n (cw_seq (cw_region (omb rfl rfl (omb rfl rfl (ow_sp (j := 1) rfl (fun h19 => ?_) (fun h19 => ?_))))))
  · refine ow1 (op1_g rfl h19 rfl (lo_move (v := .int _ _) rfl) ?_)
    refine ow1 (op1_g rfl h19 rfl (lo_move (v := .int _ _) rfl) ?_)
    refine ow1 (op1_g rfl h19 rfl (lo_eql rfl rfl) ?_)
    refine ol rfl (lo_pick_t (v := .bool _) rfl h19 rfl) (omb rfl rfl (ow_sp (j := 6) rfl (fun h20 => ?_) (fun h20 => ?_)))
    · have p21 := dt h20
      refine ow1 (op1_g rfl h20 rfl (lo_move (v := .slice _ _ _) rfl) ?_)
      refine ow1 (op1_g rfl h20 rfl (lo_move (v := .slice _ _ _) rfl) ?_)
      refine ow1 (op1_prg rfl h20 (r22_SameAll _ a14 (((allD ((unpackD text).1)).1).length) c15 ((allD ((unpackD text).1)).1) hs16 a9 (((unpackD text).1).length) c10 ((unpackD text).1) (hs11.mono ((HLe.refl _).trans hl17) (fun _ _ q => deedRE_mono _ _ _ _ ((HLe.refl _).trans hl17) q)) (by first | omega | (simp <;> omega))) (en_f cb13 rfl) rfl ?_)
      refine ol rfl (lo_pick_t (v := .bool _) rfl h20 rfl) (oab rfl rfl (ow_nil (seqK_n (cw_ret (fnK_r (res1 rfl (rv_t (v := .bool _) rfl)) ((((HLe.refl _).trans hl7).trans hl12).trans hl17) ?_)))))
      have hl := unpackD_light text
      have ha : allD (unpackD text).1 = ((unpackD text).1, true) := by unfold allD; rw [if_pos hl]
      first
        | rfl
        | (exfalso; omega)
        | (exfalso; simp [ha] at *; done)
        | (refine congrArg Value.bool ?_; simp [ha]; done)
    have p22 := df h20
    refine og rfl h20 rfl (og rfl h20 rfl (og rfl h20 rfl (ol rfl (lo_pick_f (v := .bool _) rfl h20 rfl) (oab rfl rfl (ow_nil ?_)))))
    refine seqK_n (cw_ret (fnK_r (res1 rfl (rv_t (v := .bool _) rfl)) ((((HLe.refl _).trans hl7).trans hl12).trans hl17) ?_))
    have hl := unpackD_light text
    have ha : allD (unpackD text).1 = ((unpackD text).1, true) := by unfold allD; rw [if_pos hl]
    first
      | rfl
      | (exfalso; omega)
      | (exfalso; simp [ha] at *; done)
      | (refine congrArg Value.bool ?_; simp [ha]; done)
  refine og rfl h19 rfl (og rfl h19 rfl (og rfl h19 rfl (ol rfl (lo_pick_f (v := .bool _) rfl h19 rfl) (omb rfl rfl (og rfl rfl rfl ?_)))))
  refine og rfl rfl rfl (og rfl rfl rfl (ol rfl (lo_pick_f (v := .bool _) rfl rfl rfl) (oab rfl rfl (ow_nil (seqK_n ?_)))))
  refine cw_ret (fnK_r (res1 rfl (rv_t (v := .bool _) rfl)) ((((HLe.refl _).trans hl7).trans hl12).trans hl17) ?_)
  have hl := unpackD_light text
  have ha : allD (unpackD text).1 = ((unpackD text).1, true) := by unfold allD; rw [if_pos hl]
  first
    | rfl
    | (exfalso; omega)
    | (exfalso; simp [ha] at *; done)
    | (refine congrArg Value.bool ?_; simp [ha]; done)
end Go.SW
namespace Go.SW
open Go.ChangeShapes Go.WideShapes Go.ChangeAt Go.RowKit
def hp (w : World) : Hp := fun b => w.heap[b]?
def rest0 (w : World) : Rest := ⟨fun _ => none, w.os, w.tape, w.output⟩
theorem mem0 (w : World) : Mem (rest0 w) (hp w) l0 w :=
  { os := rfl, tape := rfl, output := rfl, n := fun _ _ h => (by cases h), h := fun _ _ h => h, l := fun _ _ _ h => (by cases h), nh := fun _ _ h => (by cases h), nl := fun _ _ _ h => (by cases h), ll := fun _ _ _ _ _ h => (by cases h) }
theorem mem0_below {w w' : World} {L : Ls} (h : Mem (rest0 w) (hp w) L w') : Below w.heap.size w w' := by
  have hb : ∀ k, k < w.heap.size → w'.heap[k]? = w.heap[k]? := fun k hk => by
    have e : w.heap[k]? = some w.heap[k] := Array.getElem?_eq_getElem hk
    rw [e]; exact h.h k _ e
  refine ⟨h.os, h.tape, h.output, ?_, hb⟩
  by_cases z : w.heap.size = 0
  · omega
  · have := hb (w.heap.size - 1) (by omega)
    rw [Array.getElem?_eq_getElem (show w.heap.size - 1 < w.heap.size by omega)] at this
    have := (Array.getElem?_eq_some_iff.1 this).1
    omega
section
variable {Ht : Type} {enc : TypeId × Value → Ht} {P : Program} {w : World} {base fuel : Nat} {spare : Nat → Bool} {held : Bool} {cs : List Value} {x : DataW Ht × List MemPlace} {t : TypeId}
end
theorem params_ok {P : Program} {ts : Array TypeId} (h : (ts.toList.all fun t => P.readableRec t && decide (t < P.types.size)) = true) : ∀ t ∈ ts.toList, P.readableRec t = true ∧ t < P.types.size := fun t ht => by
  have := List.all_eq_true.1 h t ht
  simpa using this
theorem rd_one_str {Ht : Type} {enc : TypeId × Value → Ht} {P : Program} {w : World} {r : Reach} {b0 base : Nat} {spare : Nat → Bool} {held : Bool} {t : TypeId} {v : Value} {d : DataW Ht} {p : List MemPlace} (hs : P.underlying t = some .string) (hv : Value.okWide P w r b0 t v)
    (h : DataW.Trod enc P w base spare held t v d p) : ∃ z : Bs, v = str z ∧ z.length ≤ 9223372036854775807 := by
  obtain ⟨s, rfl, _, _, hw⟩ := ChangeMaps.open_string hs hv h
  refine ⟨s.data.toList, str_of s, ?_⟩
  have : s.data.toList.length = s.size := Array.length_toList
  rw [this]; exact hw
/-- The cells of a datum. -/
def flatD : Nat → DataW Unit → List Value
  | _, .lit (.int k n) => [.int k n]
  | _, .lit (.string s) => [.string ⟨s.toArray⟩]
  | _, .lit (.bool b) => [.bool b]
  | n + 1, .agg l => l.flatMap (flatD n)
  | _, _ => []
/-- The settled world, with data laid in its variables. -/
def layD (d : DataW Unit) : Obj → Obj
  | .cells _ t frozen => .cells (flatD 5 d).toArray t frozen
  | o => o
noncomputable def laidW (P : Program) (os : Os) (l : List (Nat × DataW Unit)) : World :=
  let w0 := World.holding P os ⟨#[], #[], []⟩
  { w0 with heap := List.foldl (fun h x => h.modify x.1 (layD x.2)) w0.heap l }
/-- Each argument reads as it did, where below the heap's old size nothing has turned. -/
theorem trodAll_stays {Ht : Type} {enc : TypeId × Value → Ht} {P : Program} (hl : laidOutB P = true) {W W' : World} (hb : Below W.heap.size W W') {sp : Nat → Bool} : ∀ {ts : List TypeId} {vs : List Value} {ds : List (DataW Ht)} {ps : List MemPlace}, (∀ t ∈ ts, P.readableRec t = true ∧ t < P.types.size) →
    DataW.TrodAll enc P W 0 (fun _ => true) true ts vs ds ps → (∀ x ∈ ps, x.block < W.heap.size) → (∀ x ∈ ps, sp x.block = true) → DataW.TrodAll enc P W' 0 sp true ts vs ds ps := by
  intro ts
  induction ts with
  | nil => intro vs ds ps _ h _ _; cases vs <;> cases ds <;> first | exact h | exact h.elim
  | cons t ts ih =>
    intro vs ds ps hr h hlt hsp
    obtain ⟨v, vs', d, ds', p, q, rfl, rfl, rfl, h1, h2⟩ := trodAll_cons h
    exact trodAll_cons_mk (WideElems.Trod_stays hl (hr t (by simp)).1 (hr t (by simp)).2 h1 (fun x hx => hb.same (hlt x (by simp [hx]))) (fun x hx => hsp x (by simp [hx]))) (ih (fun u hu => hr u (by simp [hu])) h2 (fun x hx => hlt x (by simp [hx])) (fun x hx => hsp x (by simp [hx])))
section
variable {Ht : Type} {enc : TypeId × Value → Ht} {P : Program}
/-- A row's last step where below the heap's old size nothing has turned: it hands back true, and the arguments read as they did. -/
theorem law_post {f : Func} {s : ChangeSpec} {apart fresh again : Bool} {W W' : World} {args : Array Value} {ds : List (DataW Ht)} {before : List MemPlace} {tb : TypeId} (hvars : s.vars = [])
    (hW : DataW.Whole enc P f.params.toList s.vars apart W args.toList ds [] before) (hb : Below W.heap.size W W') (hl : laidOutB P = true) (hr : ∀ t ∈ f.params.toList, P.readableRec t = true ∧ t < P.types.size)
    (hres : f.resultTypes = #[tb]) (hu : P.underlying tb = some .bool) (hfn : s.fn Ht (ds ++ []) = { results := [.lit (.bool true)], args := ds }) : s.post enc P f apart fresh false again W args (.bool true) W' := by
  have hlt : ∀ p ∈ before, p.block < W.heap.size := fun p hp => hW.lt p hp
  have hold : ∀ p ∈ before, (fun b => decide (b < W.heap.size)) p.block = true := fun p hp => by simpa using hlt p hp
  have hW0 := hW
  obtain ⟨p, q, hA, hV, rfl, hz, hn⟩ := hW0
  have hq : q = [] := by
    rw [hvars] at hV
    exact (trodVars_none hV).2
  subst hq
  rw [List.append_nil] at hlt hold hz hn hW
  have hA0 : DataW.TrodAll enc P W 0 (fun _ => true) true f.params.toList args.toList ds p := hA
  have hargs : ∀ sp : Nat → Bool, (∀ x ∈ p, sp x.block = true) → DataW.TrodAll enc P W' 0 sp true f.params.toList args.toList ds p := fun sp hs => trodAll_stays hl hb hr hA0 hlt hs
  have hvs : ∀ sp : Nat → Bool, DataW.TrodVars enc P W' sp s.vars ([] : List (DataW Ht)) [] := fun sp => by rw [hvars]; rfl
  have hR : ∀ (b : Nat) (sp : Nat → Bool) (hd : Bool), DataW.TrodAll enc P W' b sp hd f.resultTypes.toList ((Value.bool true).resultList f.resultTypes.size) [.lit (.bool true)] [] := fun b sp hd => by
    rw [hres]
    exact trodAll_mk1 (shut_bool hu true)
  have hok : ∀ (j : Nat) (t : TypeId) (r : Value), f.resultTypes[j]? = some t → ((Value.bool true).resultList f.resultTypes.size)[j]? = some r → Value.okWide P W' .any 0 t r := ok_one hres rfl (okWide_bool_mk hu true)
  refine ⟨ds, [], p, [], p, [], hW, ?_, ?_, ?_, World.keptBut_mono (fun x hx => ⟨hx, Or.inr (by simpa using hx)⟩) (hb.frame (· ∈ p)), fun _ => ?_⟩
  · rw [hfn]; exact hR _ _ _
  · rw [hfn]; exact hargs _ hold
  · rw [hfn]; exact hvs _
  · refine ⟨hok, _, _, ([] ++ p) ++ [], ⟨[] ++ p, [], trodAll_append (hargs _ (fun _ _ => rfl)) (hR _ _ _), hvs _, rfl, ?_, ?_⟩, ?_⟩
    · intro b off hp
      have hin : MemPlace.cell b off ∈ p := by simpa using hp
      rw [hb.frozen (hlt _ hin)]
      exact hz b off hin
    · intro ha
      have := hn ha
      simpa using this
    · intro x hx _
      simpa using hx
/-- A variable of type int holds an int. -/
theorem gint_of_shape {w : World} {g : Nat} {t : TypeId} {zero : Array Value} (h : w.ShapedOpen P) (hg : g < P.globals.size)
    (h0 : ((begin P (fun _ _ => 0) default).world.heap[g]?).bind Obj.row? = some (zero, t)) (hz : zero.size = 1)
    (hb : P.buildable t = true) (hc : P.cellTypes P.depth t = some [t]) (hu : P.underlying t = some (.int .i64)) : GInt (hp w) g := by
  obtain ⟨cs, hh, hs, hr⟩ := h.1 g zero t hg h0
  obtain ⟨ts, hts, _, hall⟩ := hr hb
  rw [hc] at hts
  cases hts
  have h1 : 0 < cs.size := by omega
  obtain ⟨u, hu', hok⟩ := hall 0 cs[0] (by simp [h1])
  have : u = t := by simpa using hu'.symm
  subst this
  unfold Cell.ok at hok
  rw [hu] at hok
  have hv : ∃ m, cs[0] = .int .i64 m := by
    cases hv : cs[0] <;> rw [hv] at hok <;> first | exact ⟨_, by rw [hok.1]⟩ | simp at hok
  obtain ⟨m, hm⟩ := hv
  refine ⟨m, u, (0, 0), ?_⟩
  show w.heap[g]? = _
  rw [hh]
  have e : cs = #[.int .i64 m] := by
    apply Array.ext
    · simp; omega
    · intro i hi1 hi2
      have : i = 0 := by simp at hi2; omega
      subst this
      simpa using hm
  rw [e]
end
end Go.SW
namespace Go.SW
open Go.ChangeShapes Go.WideShapes Go.ChangeAt Go.RowKit
variable {P : Program}
end Go.SW
