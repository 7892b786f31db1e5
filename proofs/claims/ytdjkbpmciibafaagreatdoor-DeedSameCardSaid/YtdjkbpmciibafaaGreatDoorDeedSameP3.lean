/-
  A part of the proof of DeedSame: The walks of this seat, printed by program: octet.Out.Num. The walks of this seat, printed by program: octet.Out.Raw, octet.Out.String, octet.Out.Text, words.Name. The walks of this seat, printed by program: words.Split, words.key, words.Key. The walks of this seat, printed by program: head.Find, head.pair, head.Check. The walks of this seat, printed by program: head.Bytes. The walks of this seat, printed by program: reply.blank, reply.Reply.spare, reply.mail, reply.Reply.Check. The walks of this seat, printed by program: crc.Step, crc.Sum. The walks of this seat, printed by program: frame.Bytes. The walks of this seat, printed by program: reply.Reply.Frame. The walks of this seat, printed by program: frame.Parse. The walks of this seat, printed by program: feed.Feed.Take. The walks of this seat, printed by program: feed.Feed.Rest, feed.Feed.Err, stairwelllaw01.awake, stairwelllaw01.Awake, stairwelllaw02.awake, stairwelllaw02.Awake, stairwelllaw07.awake, stairwelllaw07.Awake. The walks of this seat, printed by program: stairwelllaw08.awake, stairwelllaw08.Awake. The walks of this seat, printed by program: words.Matches, stairwelllaw04.awake, stairwelllaw04.Awake, stairwelllaw09.awake, stairwelllaw09.Awake, stairwelllaw12.awake, stairwelllaw12.Awake. The walks of this seat, printed by program: api.Pair], head.Same, stairwellref09.Same, reply.sameMail, reply.Same, stairwellref12.SameMail, stairwellref12.Same, stairwelllaw09.Light, stairwelllaw12.Light, stairwelllaw12.To, stairwelllaw12.ReplySame. The walks of this seat, printed by program: stairwellref01.In.Fail, stairwellref01.In.Raw, stairwellref01.In.Num, stairwellref01.In.Text, stairwellref01.In.End, stairwellref12.tellsN, stairwellref12.tellsM. The walks of this seat, printed by program: stairwellref04.Name, stairwellref04.Split. The walks of this seat, printed by program: stairwellref04.Key, stairwellref09.Pair, stairwellref09.Check, stairwellref12.Check, stairwellref01.Num, stairwellref01.Text, stairwellref09.Bytes. The walks of this seat, printed by program: head.one, head.Read, stairwellref09.Read, frame.Same. The walks of this seat, printed by program: reply.Of, stairwellref12.Parse. The walks of this seat, printed by program: stairwelllaw12.ReplyReads. The walks of this seat, printed by program: stairwellref12.Frame, stairwelllaw12.ReplyFrames. The walks of this seat, printed by program: method.Method.tells, method.Method.spare, words.Pattern. The walks of this seat, printed by program: method.Method.one, method.Method.Check. The walks of this seat, printed by program: method.Method.Frame. The walks of this seat, printed by program: match.Rule.Check, match.Rule.heads, match.Rule.Goes. The walks of this seat, printed by program: stairwelllaw10.awake, stairwelllaw10.Awake, stairwelllaw11.awake, stairwelllaw11.Awake. The walks of this seat, printed by program: method.Same, stairwellref11.Same, match.Same, stairwelllaw11.Light, stairwelllaw11.To, method.Method.Rule, stairwelllaw11.MethodSame
-/
import Derived.Test.YtdjkbpmciibafaaGreatDoorProg
import Derived.KernelRfl
import Derived.Test.YtdjkbpmciibafaaGreatDoorDeedSameP2
import Derived.Test.YtdjkbpmciibafaaGreatDoorDeedSameP1
set_option linter.unusedVariables false
set_option linter.unusedSimpArgs false

set_option linter.unusedVariables false
set_option maxRecDepth 100000
set_option maxHeartbeats 4000000
namespace Go.SW
open Go.Proofs
theorem ag156 : Ag Tryz.prog 156 false := fun w => by kernel_rfl
theorem ag176 : Ag Tryz.prog 176 true := fun w => by kernel_rfl
theorem by5 : By Tryz.prog 5 1 := by_of (by kernel_rfl)
theorem cb153 : Callable Tryz.prog 153 := callable_of Tryz.func153 (by kernel_rfl) (by kernel_rfl)
theorem cb91 : Callable Tryz.prog 91 := callable_of Tryz.func91 (by kernel_rfl) (by kernel_rfl)
theorem co5 : Tryz.prog.cellsOf 5 = 1 := by kernel_rfl
theorem fl158_1 : Fld Tryz.prog 158 1 1 := fun b o w => by kernel_rfl
theorem fl176_0 : Fld Tryz.prog 176 0 0 := fun b o w => by kernel_rfl
theorem mixd : Tryz.prog.follows .mixedOrders = true := by kernel_rfl
theorem sz156 : Sz Tryz.prog 156 1 := fun w => by kernel_rfl
theorem sz176 : Sz Tryz.prog 176 2 := fun w => by kernel_rfl
theorem zr158 : Zr Tryz.prog 158 [.pointer none, .slice none 0 0] := fun w => ⟨.agg #[.pointer none, .slice none 0 0], by kernel_rfl, rfl⟩
theorem zr176 : Zr Tryz.prog 176 [str [], .int .i64 0] := fun w => ⟨.agg #[str [], .int .i64 0], by kernel_rfl, rfl⟩
theorem zr5 : Zr Tryz.prog 5 [.int .u8 0] := fun w => ⟨.int .u8 0, by kernel_rfl, rfl⟩
theorem zx5 : ∃ z, ∀ w, (zeroValue 5).run Tryz.prog w = .ok z w := ⟨.int .u8 0, fun w => by kernel_rfl⟩

theorem out_Num (H : Hp) (o : Out) (n : Int) (n_r : 0 ≤ n ∧ n ≤ 18446744073709551615) (bytes : Int) (bytes_r : -9223372036854775808 ≤ bytes ∧ bytes ≤ 9223372036854775807) (hlen : o.s.length ≤ 4611686018427387904) : Pr Tryz.prog 107 #[.agg (Out.cells o).toArray, .int .u64 n, .int .i64 bytes] H (.agg (Out.cells (outNum o n bytes)).toArray) := by
  refine pr_cw Tryz.func107 rfl Tryz.ntmps107 rfl (fun N => ?_)
  refine cw_seq ?_
  refine cw_region ?_
  refine ow1 (op1_box (cs := [_, _]) 0 rfl rfl (fun b1 => ?_))
  refine ow1 (op1_alloc 1 rfl zr176 (fun b2 => ?_))
  refine ow_nil ?_
  refine seqK_n ?_
  refine cw_seq ?_
  refine cw_region ?_
  refine ow1 (op1_alloc 2 rfl zr158 (fun b3 => ?_))
  refine ow_nil ?_
  refine seqK_n ?_
  refine cw_seq ?_
  refine cw_seq ?_
  refine cw_region ?_
  refine ow1 (op1_l rfl (lo_move (v := .int _ _) rfl) ?_)
  refine ow1 (op1_l rfl (lo_max rfl rfl) ?_)
  refine ow1 (op1_l rfl (lo_min rfl rfl) ?_)
  refine ow1 (op1_l rfl (lo_sub rfl rfl (rg_i64 (by omega))) ?_)
  refine ow1 (op1_l rfl (lo_assign (v := .int _ _) rfl) ?_)
  refine ow_nil ?_
  refine seqK_n ?_
  refine cw_block ?_
  refine cw_loop5 [8, 13, 14, 15, 16, 17, 18, 19, 20, 21, 22] [2, 3, 4] (fun (j : Nat) (bs : Bs) (p : Value) (v : Value) (en : Option (Nat × Obj)) G => upd (G) 8 (.int .i64 ((j : Int) - 1))) (fun (j : Nat) (bs : Bs) (p : Value) (v : Value) (en : Option (Nat × Obj)) G => lupd (lupd (G) 2 (some (b3, bx 158 [p, v]))) 3 (en)) (fun (j : Nat) (bs : Bs) (p : Value) (v : Value) (en : Option (Nat × Obj)) H' => bs ++ numB j n.toNat = numB (numK bytes) n.toNat ∧ bs.length + j = numK bytes ∧ OwnV 1 5 v en bs.length (bs.map u8v) ∧ (bs.length = 0 → v = .slice none 0 0) ∧ (p = .pointer none ∨ p = .pointer (some ⟨b3, 0, none⟩))) (fun (j : Nat) (bs : Bs) (p : Value) (v : Value) (en : Option (Nat × Obj)) => j) (numK bytes) [] (.pointer none) (.slice none 0 0) none (upd_intro (mask_intro (by first | exact off_refl | (repeat (first | exact off_mask | refine off_upd rfl ?_ | refine off_mask2 rfl ?_)))) (congrArg (Value.int .i64) (show min (max bytes 0) 8 - 1 = ((numK bytes : Nat) : Int) - 1 by unfold numK; omega))) (lupd_intro (lupd_intro (lmask_intro offl_refl) rfl) rfl) ?_ ?_
  · exact ⟨rfl, by simp, ownV_nil, fun _ => rfl, .inl rfl⟩
  · intro j bs p v en J5 JL5 H5 hp4 hl5
    obtain ⟨hk1, hk2, ho, hz, hpp⟩ := hp4
    have hk8 : numK bytes ≤ 8 := by unfold numK; omega
    refine cw_seq ?_
    refine cw_seq ?_
    refine cw_region ?_
    refine ow1 (op1_l rfl (lo_move (v := .int _ _) rfl) ?_)
    refine ow1 (op1_l rfl (lo_geq rfl rfl) ?_)
    refine ow_nil ?_
    refine seqK_n ?_
    refine cw_cond rfl (fun h6 => ?_) (fun h6 => ?_)
    · have p7 := dt h6
      refine cw_skip ?_
      refine seqK_n ?_
      refine cw_seq ?_
      refine cw_block ?_
      refine cw_region ?_
      refine ow1 (op1_l rfl (lo_move (v := .int _ _) rfl) ?_)
      refine ow1 (op1_l rfl (lo_move (v := .int _ _) rfl) ?_)
      refine ow1 (op1_l rfl (lo_mul rfl rfl (rg_i64 (by omega))) ?_)
      refine ow1 (op1_l rfl (lo_shr rfl rfl (by omega)) ?_)
      have := wr_u8 (Int.fdiv n (2 ^ (min ((8 * ((j : Int) - 1)) : Int).toNat (IntKind.bits .u64))))
      refine ow1 (op1_l rfl (lo_conv rfl (by rw [Tryz.underlying25]; rfl) Tryz.underlying5) ?_)
      refine ow1 (op1_in (en_f cb153 rfl) Tryz.func153 rfl Tryz.ntmps153 rfl rfl ?_)
      refine cw_seq ?_
      refine cw_region ?_
      refine ow1 (op1_l rfl (lo_assign rfl) ?_)
      refine ow_nil ?_
      refine seqK_n ?_
      refine cw_seq ?_
      refine cw_region ?_
      refine ow1 (op1_l rfl (lo_move (v := .pointer (some ⟨_, _, none⟩)) rfl) ?_)
      refine ow1 (copyCheck 2 rfl rfl hpp rfl ?_)
      refine ow_nil ?_
      refine seqK_n ?_
      refine cw_seq ?_
      refine cw_region ?_
      refine ow1 (op1_l rfl (lo_move (v := .pointer (some ⟨_, _, none⟩)) rfl) ?_)
      refine ow1 (op1_l rfl (lo_move (v := .pointer (some ⟨_, _, none⟩)) rfl) ?_)
      refine ow1 (op1_l rfl (lo_nilCheck rfl) ?_)
      refine ow1 (op1_l rfl (lo_fieldAddr rfl fl158_1) ?_)
      refine ow1 (op1_l rfl (lo_load1 (i := 2) rfl ag156 rfl rfl) ?_)
      refine ow1 (op1_l rfl (lo_move (v := .int _ _) rfl) ?_)
      refine ow1 (op1_bslice (cs := [_]) 4 rfl Tryz.underlying156 sz5 zx5 rfl ⟨rfl, rfl, trivial⟩ rfl rfl (by decide) (fun b8 => ?_))
      refine ow1 (op1_app 3 rfl rfl Tryz.underlying156 Tryz.underlying156 rfl sz5 by5 (by decide) zr5 ho (src_bx (i := 4) rfl rfl) (List.all_eq_true.1 rfl) rfl (by omega) rfl (fun v9 en10 ho11 => ?_))
      have ho12 := byte_app (bs := bs) ho11 (by first | rfl | simp) (wrap8r _)
      refine ow1 (op1_l rfl (lo_nilCheck rfl) ?_)
      refine ow1 (op1_l rfl (lo_fieldAddr rfl fl158_1) ?_)
      refine ow1 (op1_store1 (i := 2) rfl rfl (ownV_one ho12) sz156 rfl rfl ?_)
      refine ow_nil ?_
      refine seqK_n ?_
      refine cw_seq ?_
      refine cw_region ?_
      refine ow1 (op1_l rfl (lo_assign rfl) ?_)
      refine ow_nil ?_
      refine seqK_n ?_
      refine cw_ret ?_
      refine fnK_r (res1 rfl (rv_t rfl)) (.refl _) ?_
      refine ow_nil ?_
      refine blkK_n ?_
      refine seqK_n ?_
      refine cw_region ?_
      refine ow1 (op1_l rfl (lo_move (v := .int _ _) rfl) ?_)
      refine ow1 (op1_l rfl (lo_sub rfl rfl (rg_i64 (by omega))) ?_)
      refine ow1 (op1_l rfl (lo_assign (v := .int _ _) rfl) ?_)
      refine ow_nil ?_
      refine next5 (j - 1) (bs ++ [UInt8.ofNat ((IntKind.wrap .u8 (Int.fdiv n (2 ^ (min ((8 * ((j : Int) - 1)) : Int).toNat (IntKind.bits .u64)))))).toNat]) (.pointer (some ⟨b3, 0, none⟩)) v9 en10 (upd_intro (mask_intro (by first | exact off_refl | (repeat (first | exact off_mask | refine off_upd rfl ?_ | refine off_mask2 rfl ?_)))) (congrArg (Value.int .i64) (show ((j : Int) - 1) - 1 = ((j - 1 : Nat) : Int) - 1 by omega))) (lupd_intro (lupd_intro (lmask_intro (by first | exact offl_refl | (repeat (first | exact offl_mask | refine offl_upd rfl ?_ | refine offl_mask2 rfl ?_)))) rfl) rfl) hl5 ?_ ?_
      · refine ⟨?_, ?_, ho12, (nz_of ho12 (by simp)), .inr rfl⟩
        · rw [byte_of n_r.1 (by omega) (by omega), List.append_assoc, ← hk1]
          obtain ⟨q, rfl⟩ : ∃ q, j = q + 1 := ⟨j - 1, by omega⟩
          simp [numB]
        · simp; omega
      · omega
    · have p13 := df h6
      refine cw_exit ?_
      refine seqK_e ?_
      refine loopK_e ?_
      refine blkK_hit ?_
      refine seqK_n ?_
      refine cw_seq ?_
      refine cw_anyX 3 mixd ?_
      refine vw_q 0 rfl (by kernel_rfl) (by repeat (first | exact lle_l0 | exact LLe.refl _ | exact lle_none | refine lle_up ?_ rfl)) (fun _ _ hh hl => lo_fieldAddr rfl fl176_0) ?_
      refine vw_q 1 rfl (by kernel_rfl) (by repeat (first | exact lle_l0 | exact LLe.refl _ | exact lle_none | refine lle_up ?_ rfl)) (fun _ _ hh hl => lo_load1 (i := 0) (v := str _) rfl ag9 (hl _ _ rfl) rfl) ?_
      refine vw_e 2 rfl (by kernel_rfl) (op1_in (en_f cb91 rfl) Tryz.func91 rfl Tryz.ntmps91 rfl rfl ?_)
      refine cw_seq ?_
      refine cw_region ?_
      refine ow1 (op1_l rfl (lo_assign (v := str _) rfl) ?_)
      refine ow_nil ?_
      refine seqK_n ?_
      refine cw_seq ?_
      refine cw_anyX 3 mixd ?_
      refine vw_q 0 rfl (by kernel_rfl) (by repeat (first | exact lle_l0 | exact LLe.refl _ | exact lle_none | refine lle_up ?_ rfl)) (fun _ _ hh hl => lo_move (v := .pointer (some ⟨_, _, none⟩)) rfl) ?_
      refine vw_q 1 rfl (by kernel_rfl) (by repeat (first | exact lle_l0 | exact LLe.refl _ | exact lle_none | refine lle_up ?_ rfl)) (fun _ _ hh hl => lo_nilCheck rfl) ?_
      refine vw_q 2 rfl (by kernel_rfl) (by repeat (first | exact lle_l0 | exact LLe.refl _ | exact lle_none | refine lle_up ?_ rfl)) (fun _ _ hh hl => lo_fieldAddr rfl fl158_1) ?_
      refine vw_q 3 rfl (by kernel_rfl) (by repeat (first | exact lle_l0 | exact LLe.refl _ | exact lle_none | refine lle_up ?_ rfl)) (fun _ _ hh hl => lo_load1 (i := 2) rfl ag156 (hl _ _ rfl) rfl) ?_
      refine vw_q 4 rfl (by kernel_rfl) (by repeat (first | exact lle_l0 | exact LLe.refl _ | exact lle_none | refine lle_up ?_ rfl)) (fun _ _ hh hl => lo_usd rfl ho hz) ?_
      refine vw_q 5 rfl (by kernel_rfl) (by repeat (first | exact lle_l0 | exact LLe.refl _ | exact lle_none | refine lle_up ?_ rfl)) (fun _ _ hh hl => lo_move (v := .pointer (some ⟨_, _, none⟩)) rfl) ?_
      refine vw_q 6 rfl (by kernel_rfl) (by repeat (first | exact lle_l0 | exact LLe.refl _ | exact lle_none | refine lle_up ?_ rfl)) (fun _ _ hh hl => lo_nilCheck rfl) ?_
      refine vw_q 7 rfl (by kernel_rfl) (by repeat (first | exact lle_l0 | exact LLe.refl _ | exact lle_none | refine lle_up ?_ rfl)) (fun _ _ hh hl => lo_fieldAddr rfl fl158_1) ?_
      refine vw_q 8 rfl (by kernel_rfl) (by repeat (first | exact lle_l0 | exact LLe.refl _ | exact lle_none | refine lle_up ?_ rfl)) (fun _ _ hh hl => lo_load1 (i := 2) rfl ag156 (hl _ _ rfl) rfl) ?_
      refine vw_q 9 rfl (by kernel_rfl) (by repeat (first | exact lle_l0 | exact LLe.refl _ | exact lle_none | refine lle_up ?_ rfl)) (fun _ _ hh hl => lo_len_own rfl ho Tryz.underlying156) ?_
      refine vw_e 10 rfl (by kernel_rfl) (op1_ustr (l := bs) 3 rfl rfl Tryz.underlying250 co5 ho hz (by have hq := numB_len (numK bytes) n.toNat; simp [numK] at *; omega) rfl ?_)
      refine ⟨⟨(.refl _), (by repeat (first | exact lle_l0 | exact LLe.refl _ | exact lle_none | refine lle_up ?_ rfl))⟩, ?_⟩
      refine vw_q 11 rfl (by kernel_rfl) (by repeat (first | exact lle_l0 | exact LLe.refl _ | exact lle_none | refine lle_up ?_ rfl)) (fun _ _ hh hl => lo_assign (v := str _) rfl) ?_
      refine vw_done (by kernel_rfl) ?_
      refine seqK_n ?_
      refine cw_ret ?_
      refine fnK_r (res1 rfl (rv_t (v := str _) rfl)) (.refl _) ?_
      refine ⟨⟨(.refl _), (by repeat (first | exact lle_l0 | exact LLe.refl _ | exact lle_none | refine lle_up ?_ rfl))⟩, ?_⟩
      refine vw_q 3 rfl (by kernel_rfl) (by repeat (first | exact lle_l0 | exact LLe.refl _ | exact lle_none | refine lle_up ?_ rfl)) (fun _ _ hh hl => lo_cat rfl rfl (by have hq := numB_len (numK bytes) n.toNat; simp [numK] at *; omega)) ?_
      refine vw_q 4 rfl (by kernel_rfl) (by repeat (first | exact lle_l0 | exact LLe.refl _ | exact lle_none | refine lle_up ?_ rfl)) (fun _ _ hh hl => lo_fieldAddr rfl fl176_0) ?_
      refine vw_t 5 rfl (by kernel_rfl) (by kernel_rfl) (op1_store1 (i := 0) (v := str _) rfl rfl rfl sz9 rfl rfl ?_)
      refine vw_done (by kernel_rfl) ?_
      refine seqK_n ?_
      refine cw_seq ?_
      refine cw_region ?_
      refine ow1 (op1_l rfl (lo_loadA (i := 0) (vs := [_, _]) rfl ag176 sz176 rfl rfl rfl) ?_)
      refine ow1 (op1_storeA (i := 1) (vs := [_, _]) rfl rfl rfl sz176 rfl rfl rfl ?_)
      refine ow_nil ?_
      refine seqK_n ?_
      refine cw_ret ?_
      refine fnK_r (res1 rfl (rv_c (i := 1) (vs := [_, _]) rfl ag176 sz176 rfl rfl rfl)) ((HLe.refl _).trans hl5) ?_
      obtain rfl : j = 0 := by omega
      simp only [numB, List.append_nil] at hk1
      subst hk1
      rfl

end Go.SW


set_option linter.unusedVariables false
set_option maxRecDepth 100000
set_option maxHeartbeats 4000000
namespace Go.SW
open Go.Proofs
theorem cb107 : Callable Tryz.prog 107 := callable_of Tryz.func107 (by kernel_rfl) (by kernel_rfl)
theorem cb112 : Callable Tryz.prog 112 := callable_of Tryz.func112 (by kernel_rfl) (by kernel_rfl)
theorem cb200 : Callable Tryz.prog 200 := callable_of Tryz.func200 (by kernel_rfl) (by kernel_rfl)
theorem fl176_1 : Fld Tryz.prog 176 1 1 := fun b o w => by kernel_rfl

theorem out_Raw (H : Hp) (o : Out) (s : Bs) (hlen : o.s.length + s.length ≤ 4611686018427387904) : Pr Tryz.prog 112 #[.agg (Out.cells o).toArray, str s] H (.agg (Out.cells (outRaw o s)).toArray) := by
  refine pr_cw Tryz.func112 rfl Tryz.ntmps112 rfl (fun N => ?_)
  refine cw_seq ?_
  refine cw_region ?_
  refine ow1 (op1_box (cs := [_, _]) 0 rfl rfl (fun b1 => ?_))
  refine ow1 (op1_alloc 1 rfl zr176 (fun b2 => ?_))
  refine ow_nil ?_
  refine seqK_n ?_
  refine cw_seq ?_
  refine cw_region ?_
  refine ow1 (op1_l rfl (lo_fieldAddr rfl fl176_0) ?_)
  refine ow1 (op1_l rfl (lo_load1 (i := 0) (v := str _) rfl ag9 rfl rfl) ?_)
  refine ow1 (op1_l rfl (lo_move (v := str _) rfl) ?_)
  refine ow1 (op1_l rfl (lo_cat rfl rfl (by first | omega | (simp <;> omega))) ?_)
  refine ow1 (op1_l rfl (lo_fieldAddr rfl fl176_0) ?_)
  refine ow1 (op1_store1 (i := 0) (v := str _) rfl rfl rfl sz9 rfl rfl ?_)
  refine ow_nil ?_
  refine seqK_n ?_
  refine cw_seq ?_
  refine cw_region ?_
  refine ow1 (op1_l rfl (lo_loadA (i := 0) (vs := [_, _]) rfl ag176 sz176 rfl rfl rfl) ?_)
  refine ow1 (op1_storeA (i := 1) (vs := [_, _]) rfl rfl rfl sz176 rfl rfl rfl ?_)
  refine ow_nil ?_
  refine seqK_n ?_
  refine cw_ret ?_
  refine fnK_r (res1 rfl (rv_c (i := 1) (vs := [_, _]) rfl ag176 sz176 rfl rfl rfl)) (.refl _) ?_
  rfl

theorem out_String (H : Hp) (o : Out) : Pr Tryz.prog 113 #[.agg (Out.cells o).toArray] H (str o.s) := by
  refine pr_cw Tryz.func113 rfl Tryz.ntmps113 rfl (fun N => ?_)
  refine cw_seq ?_
  refine cw_region ?_
  refine ow1 (op1_box (cs := [_, _]) 0 rfl rfl (fun b1 => ?_))
  refine ow1 (op1_l rfl (lo_assign (v := str _) rfl) ?_)
  refine ow_nil ?_
  refine seqK_n ?_
  refine cw_seq ?_
  refine cw_region ?_
  refine ow1 (op1_l rfl (lo_fieldAddr rfl fl176_0) ?_)
  refine ow1 (op1_l rfl (lo_load1 (i := 0) (v := str _) rfl ag9 rfl rfl) ?_)
  refine ow1 (op1_l rfl (lo_assign (v := str _) rfl) ?_)
  refine ow_nil ?_
  refine seqK_n ?_
  refine cw_ret ?_
  refine fnK_r (res1 rfl (rv_t (v := str _) rfl)) (.refl _) ?_
  rfl

theorem out_Text (H : Hp) (o : Out) (s : Bs) (hlen : o.s.length + s.length ≤ 4611686018427386000) : Pr Tryz.prog 109 #[.agg (Out.cells o).toArray, str s] H (.agg (Out.cells (outText o s)).toArray) := by
  refine pr_cw Tryz.func109 rfl Tryz.ntmps109 rfl (fun N => ?_)
  refine cw_seq ?_
  refine cw_region ?_
  refine ow1 (op1_box (cs := [_, _]) 0 rfl rfl (fun b1 => ?_))
  refine ow1 (op1_alloc 1 rfl zr176 (fun b2 => ?_))
  refine ow_nil ?_
  refine seqK_n ?_
  refine cw_seq ?_
  refine cw_seq ?_
  refine cw_region ?_
  refine ow1 (op1_l rfl (lo_move (v := str _) rfl) ?_)
  refine ow1 (op1_l rfl (lo_len_str rfl Tryz.underlying9) ?_)
  refine ow1 (op1_l rfl (lo_gtr rfl rfl) ?_)
  refine ow_nil ?_
  refine seqK_n ?_
  refine cw_cond rfl (fun h3 => ?_) (fun h3 => ?_)
  · have p4 := dt h3
    refine cw_seq ?_
    refine cw_seq ?_
    refine cw_region ?_
    refine ow1 (op1_l rfl (lo_fieldAddr rfl fl176_1) ?_)
    refine ow1 (op1_l rfl (lo_load1 (i := 0) (v := .int _ _) rfl ag39 rfl rfl) ?_)
    refine ow1 (op1_l rfl (lo_eql rfl rfl) ?_)
    refine ow_nil ?_
    refine seqK_n ?_
    refine cw_cond rfl (fun h5 => ?_) (fun h5 => ?_)
    · have p6 := dt h5
      refine cw_region ?_
      refine ow1 (op1_l rfl (lo_fieldAddr rfl fl176_1) ?_)
      refine ow1 (op1_store1 (i := 0) (v := .int _ _) rfl rfl rfl sz39 rfl rfl ?_)
      refine ow_nil ?_
      refine seqK_n ?_
      refine cw_seq ?_
      refine cw_region ?_
      refine ow1 (op1_l rfl (lo_loadA (i := 0) (vs := [_, _]) rfl ag176 sz176 rfl rfl rfl) ?_)
      refine ow1 (op1_storeA (i := 1) (vs := [_, _]) rfl rfl rfl sz176 rfl rfl rfl ?_)
      refine ow_nil ?_
      refine seqK_n ?_
      refine cw_ret ?_
      refine seqK_r ?_
      refine fnK_r (res1 rfl (rv_c (i := 1) (vs := [_, _]) rfl ag176 sz176 rfl rfl rfl)) (.refl _) ?_
      simp [outText, Out.cells, *]
    · have p7 := df h5
      refine cw_skip ?_
      refine seqK_n ?_
      refine cw_seq ?_
      refine cw_region ?_
      refine ow1 (op1_l rfl (lo_loadA (i := 0) (vs := [_, _]) rfl ag176 sz176 rfl rfl rfl) ?_)
      refine ow1 (op1_storeA (i := 1) (vs := [_, _]) rfl rfl rfl sz176 rfl rfl rfl ?_)
      refine ow_nil ?_
      refine seqK_n ?_
      refine cw_ret ?_
      refine seqK_r ?_
      refine fnK_r (res1 rfl (rv_c (i := 1) (vs := [_, _]) rfl ag176 sz176 rfl rfl rfl)) (.refl _) ?_
      simp [outText, Out.cells, *]
  · have p8 := df h3
    refine cw_skip ?_
    refine seqK_n ?_
    refine cw_seq ?_
    refine cw_region ?_
    refine ow1 (op1_l rfl (lo_loadA (i := 0) (vs := [_, _]) rfl ag176 sz176 rfl rfl rfl) ?_)
    refine ow1 (op1_l rfl (lo_move (v := str _) rfl) ?_)
    refine ow1 (op1_l rfl (lo_len_str rfl Tryz.underlying9) ?_)
    refine ow1 (op1_l rfl (lo_conv_in rfl (by rw [Tryz.underlying3]; rfl) Tryz.underlying25 (rg_u64 (by omega))) ?_)
    refine ow1 (op1_pr (out_Num _ o (s.length : Int) (by omega) 2 (by omega) (by first | omega | (have := hrl (by assumption); omega) | (simp [outNum, outRaw, numB_len, numK] <;> omega) | (have := hrl (by assumption); simp [outNum, outRaw, numB_len, numK] <;> omega))) (en_f cb107 rfl) rfl ?_)
    have := outNum_len o (s.length : Int) 2
    refine ow1 (op1_l rfl (lo_move (v := str _) rfl) ?_)
    refine ow1 (op1_pr (out_Raw _ (outNum o (s.length : Int) 2) s (by first | omega | (have := hrl (by assumption); omega) | (simp [outNum, outRaw, numB_len, numK] <;> omega) | (have := hrl (by assumption); simp [outNum, outRaw, numB_len, numK] <;> omega))) (en_f cb112 rfl) rfl ?_)
    have := outRaw_len (outNum o (s.length : Int) 2) s
    refine ow1 (op1_storeA (i := 1) (vs := [_, _]) rfl rfl rfl sz176 rfl rfl rfl ?_)
    refine ow_nil ?_
    refine seqK_n ?_
    refine cw_ret ?_
    refine fnK_r (res1 rfl (rv_c (i := 1) (vs := [_, _]) rfl ag176 sz176 rfl rfl rfl)) (.refl _) ?_
    simp [outText, Out.cells, *]

theorem words_Name (H : Hp) (s : Bs) (hs : s.length ≤ 9223372036854775807) : Pr Tryz.prog 116 #[str s] H (.int .i64 (nameE s)) := by
  refine pr_cw Tryz.func116 rfl Tryz.ntmps116 rfl (fun N => ?_)
  refine cw_seq ?_
  refine cw_region ?_
  refine ow1 (op1_l rfl (lo_assign (v := .int _ _) rfl) ?_)
  refine ow_nil ?_
  refine seqK_n ?_
  refine cw_seq ?_
  refine cw_block ?_
  refine cw_seq ?_
  refine cw_region ?_
  refine ow1 (op1_l rfl (lo_move (v := str _) rfl) ?_)
  refine ow1 (op1_l rfl (lo_seql rfl rfl) ?_)
  refine ow1 (op1_l rfl (lo_assign (v := .bool _) rfl) ?_)
  refine ow_nil ?_
  refine seqK_n ?_
  refine cw_cond rfl (fun h1 => ?_) (fun h1 => ?_)
  · have p2 := dt h1
    refine cw_seq ?_
    refine cw_region ?_
    refine ow1 (op1_l rfl (lo_assign (v := .int _ _) rfl) ?_)
    refine ow_nil ?_
    refine seqK_n ?_
    refine cw_ret ?_
    refine blkK_r ?_
    refine seqK_r ?_
    refine fnK_r (res1 rfl (rv_t (v := .int _ _) rfl)) (.refl _) ?_
    simp [nameE, *] <;> omega
  · have p3 := df h1
    refine cw_seq ?_
    refine cw_region ?_
    refine ow1 (op1_l rfl (lo_move (v := str _) rfl) ?_)
    refine ow1 (op1_l rfl (lo_len_str rfl Tryz.underlying9) ?_)
    refine ow1 (op1_l rfl (lo_gtr rfl rfl) ?_)
    refine ow1 (op1_l rfl (lo_assign (v := .bool _) rfl) ?_)
    refine ow_nil ?_
    refine seqK_n ?_
    refine cw_cond rfl (fun h4 => ?_) (fun h4 => ?_)
    · have p5 := dt h4
      refine cw_seq ?_
      refine cw_region ?_
      refine ow1 (op1_l rfl (lo_assign (v := .int _ _) rfl) ?_)
      refine ow_nil ?_
      refine seqK_n ?_
      refine cw_ret ?_
      refine blkK_r ?_
      refine seqK_r ?_
      refine fnK_r (res1 rfl (rv_t (v := .int _ _) rfl)) (.refl _) ?_
      simp [nameE, *] <;> omega
    · have p6 := df h4
      refine cw_seq ?_
      refine cw_region ?_
      refine ow1 (op1_l rfl (lo_move (v := str _) rfl) ?_)
      refine ow1 (op1_pr (words_plain _ s (by omega)) (en_f cb200 rfl) rfl ?_)
      refine ow1 (op1_l rfl (lo_not rfl) ?_)
      refine ow1 (op1_l rfl (lo_assign (v := .bool _) rfl) ?_)
      refine ow_nil ?_
      refine seqK_n ?_
      refine cw_cond rfl (fun h7 => ?_) (fun h7 => ?_)
      · have h8 := not_t h7
        refine cw_seq ?_
        refine cw_region ?_
        refine ow1 (op1_l rfl (lo_assign (v := .int _ _) rfl) ?_)
        refine ow_nil ?_
        refine seqK_n ?_
        refine cw_ret ?_
        refine blkK_r ?_
        refine seqK_r ?_
        refine fnK_r (res1 rfl (rv_t (v := .int _ _) rfl)) (.refl _) ?_
        simp [nameE, *] <;> omega
      · have h9 := not_f h7
        refine cw_skip ?_
        refine blkK_n ?_
        refine seqK_n ?_
        refine cw_seq ?_
        refine cw_region ?_
        refine ow1 (op1_l rfl (lo_assign (v := .int _ _) rfl) ?_)
        refine ow_nil ?_
        refine seqK_n ?_
        refine cw_ret ?_
        refine fnK_r (res1 rfl (rv_t (v := .int _ _) rfl)) (.refl _) ?_
        simp [nameE, *] <;> omega

end Go.SW


set_option linter.unusedVariables false
set_option maxRecDepth 100000
set_option maxHeartbeats 4000000
namespace Go.SW
open Go.Proofs
theorem cb234 : Callable Tryz.prog 234 := callable_of Tryz.func234 (by kernel_rfl) (by kernel_rfl)
theorem cb255 : Callable Tryz.prog 255 := callable_of Tryz.func255 (by kernel_rfl) (by kernel_rfl)
theorem cb265 : Callable Tryz.prog 265 := callable_of Tryz.func265 (by kernel_rfl) (by kernel_rfl)

theorem words_Split (H : Hp) (s : Bs) (hML : GInt H 2) (hs : s.length < 4294967281) : Ph Tryz.prog 255 #[str s] H (fun v H' => ∃ (a1 : Option Addr) (c1 : Nat), v = .slice a1 (wordsOf s).length c1 ∧ SlH strE 1 H' (.slice a1 (wordsOf s).length c1) (wordsOf s)) := by
  refine ph_cw Tryz.func255 rfl Tryz.ntmps255 rfl (fun N => ?_)
  refine cw_seq ?_
  refine cw_region ?_
  refine ow1 (op1_l rfl (lo_assign (v := .slice _ _ _) rfl) ?_)
  refine ow_nil ?_
  refine seqK_n ?_
  refine cw_seq ?_
  refine cw_seq ?_
  refine cw_region ?_
  refine ow1 (op1_l rfl (lo_move (v := str _) rfl) ?_)
  refine ow1 (op1_l rfl (lo_seql rfl rfl) ?_)
  refine ow_nil ?_
  refine seqK_n ?_
  refine cw_cond rfl (fun h1 => ?_) (fun h1 => ?_)
  · have p2 := dt h1
    refine cw_seq ?_
    refine cw_region ?_
    refine ow1 (op1_l rfl (lo_assign (v := .slice _ _ _) rfl) ?_)
    refine ow_nil ?_
    refine seqK_n ?_
    refine cw_ret ?_
    refine seqK_r ?_
    refine fnK_r (res1 rfl (rv_t (v := .slice _ _ _) rfl)) (.refl _) ?_
    have e : wordsOf s = [] := by simp [wordsOf, *]
    rw [e]
    exact ⟨none, 0, rfl, slh_nil⟩
  · have p3 := df h1
    refine cw_skip ?_
    refine seqK_n ?_
    refine cw_seq ?_
    refine cw_region ?_
    refine ow1 (op1_l rfl (lo_move (v := str _) rfl) ?_)
    refine ow1 (op1_ph (strings_Split _ s [46] (by rfl) hML (by omega)) (en_f cb265 rfl) rfl ?_)
    rintro _ H8 ⟨a4, c5, rfl, hs6⟩ hl7
    refine ow1 (op1_l rfl (lo_assign (v := .slice _ _ _) rfl) ?_)
    refine ow_nil ?_
    refine seqK_n ?_
    refine cw_ret ?_
    refine fnK_r (res1 rfl (rv_t (v := .slice _ _ _) rfl)) ((HLe.refl _).trans hl7) ?_
    have e : wordsOf s = dots s := by simp [wordsOf, *]
    rw [e]
    exact ⟨_, _, rfl, hs6⟩

theorem words_key (H : Hp) (s : Bs) (besides_a : Option Addr) (besides_l besides_c : Nat) (besides : List Bs) (besides_h : SlH strE 1 H (.slice besides_a besides_l besides_c) besides) (hML : GInt H 2) (hbl : besides.length < 4294967281) : Pr Tryz.prog 234 #[str s, .slice besides_a besides_l besides_c] H (.int .i64 (keyE besides s)) := by
  refine pr_cw Tryz.func234 rfl Tryz.ntmps234 rfl (fun N => ?_)
  refine cw_seq ?_
  refine cw_region ?_
  refine ow1 (op1_l rfl (lo_assign (v := .int _ _) rfl) ?_)
  refine ow_nil ?_
  refine seqK_n ?_
  refine cw_scope ?_
  refine cw_seq ?_
  refine cw_seq ?_
  refine cw_region ?_
  refine ow1 (op1_l rfl (lo_move (v := str _) rfl) ?_)
  refine ow1 (op1_l rfl (lo_len_str rfl Tryz.underlying9) ?_)
  refine ow1 (op1_l rfl (lo_gtr rfl rfl) ?_)
  refine ow_nil ?_
  refine seqK_n ?_
  refine cw_cond rfl (fun h1 => ?_) (fun h1 => ?_)
  · have p2 := dt h1
    refine cw_seq ?_
    refine cw_region ?_
    refine ow1 (op1_l rfl (lo_assign (v := .int _ _) rfl) ?_)
    refine ow_nil ?_
    refine seqK_n ?_
    refine cw_ret ?_
    refine seqK_r ?_
    refine scK_r ?_
    refine fnK_r (res1 rfl (rv_t (v := .int _ _) rfl)) (.refl _) ?_
    simp [keyE, *]
  · have p3 := df h1
    refine cw_skip ?_
    refine seqK_n ?_
    refine cw_seq ?_
    refine cw_label ?_
    refine seqK_n ?_
    refine cw_seq ?_
    refine cw_seq ?_
    refine cw_region ?_
    refine ow1 (op1_l rfl (lo_move (v := str _) rfl) ?_)
    refine ow1 (op1_ph (words_Split _ s hML (by omega)) (en_f cb255 rfl) rfl ?_)
    rintro _ H8 ⟨a4, c5, rfl, hs6⟩ hl7
    refine ow1 (op1_l rfl (lo_len_slh rfl hs6 Tryz.underlying245) ?_)
    refine ow1 (op1_l rfl (lo_move (v := .int _ _) rfl) ?_)
    refine ow_nil ?_
    refine seqK_n ?_
    refine cw_block ?_
    refine cw_loop1 [4, 6, 8, 15, 16, 17, 18, 19, 20, 21, 22, 23, 24, 25, 26, 27, 28, 29, 30, 31, 32, 33, 34, 35, 36] [] (fun (k : Nat) G => upd (G) 15 (.int .i64 (k : Int))) (fun (k : Nat) G => G) (fun (k : Nat) H' => k ≤ (wordsOf s).length ∧ (wordsOf s).any (isBad besides) = ((wordsOf s).drop k).any (isBad besides)) (fun (k : Nat) => (wordsOf s).length - k) 0 (upd_intro (mask_intro (by first | exact off_refl | (repeat (first | exact off_mask | refine off_upd rfl ?_ | refine off_mask2 rfl ?_)))) rfl) (lmask_intro offl_refl) ?_ ?_
    · exact ⟨Nat.zero_le _, by simp⟩
    · intro k J10 JL10 H10 hp9 hl10
      obtain ⟨hk1, hk2⟩ := hp9
      have hwl := words_le s
      refine cw_seq ?_
      refine cw_region ?_
      refine ow1 (op1_l rfl (lo_lss rfl rfl) ?_)
      refine ow_nil ?_
      refine seqK_n ?_
      refine cw_seq ?_
      refine cw_cond rfl (fun h11 => ?_) (fun h11 => ?_)
      · have p12 := dt h11
        refine cw_skip ?_
        refine seqK_n ?_
        refine cw_seq ?_
        refine cw_block ?_
        refine cw_seq ?_
        refine cw_region ?_
        obtain ⟨c13, hc14⟩ := getE (xs := wordsOf s) (m := k) (by omega)
        obtain ⟨cs15, hE16, at17⟩ := (hs6.mono ((HLe.refl _).trans hl10) (fun _ _ h => h)).get hc14
        obtain ⟨rfl, c13_w⟩ := hE16
        have c13_w : c13.length ≤ 9223372036854775807 := c13_w
        refine ow1 (op1_l rfl (lo_indexAddr rfl rfl (hs6.mono ((HLe.refl _).trans hl10) (fun _ _ h => h)).1 at17 Tryz.underlying245 sz9 (by omega) (by omega)) ?_)
        refine ow1 (op1_l rfl (lo_loadE1 rfl ag9 at17) ?_)
        refine ow1 (op1_l rfl (lo_assign (v := str _) rfl) ?_)
        refine ow_nil ?_
        refine seqK_n ?_
        refine cw_seq ?_
        refine cw_seq ?_
        refine cw_region ?_
        refine ow1 (op1_l rfl (lo_move (v := .slice _ _ _) rfl) ?_)
        refine ow1 (op1_l rfl (lo_len_slh rfl (besides_h.mono (((HLe.refl _).trans hl7).trans hl10) (fun _ _ h => h)) Tryz.underlying245) ?_)
        refine ow1 (op1_l rfl (lo_move (v := .int _ _) rfl) ?_)
        refine ow_nil ?_
        refine seqK_n ?_
        refine cw_block ?_
        refine cw_loop1 [8, 21, 22, 23, 24, 25, 26, 27, 28] [] (fun (j : Nat) G => upd (G) 21 (.int .i64 (j : Int))) (fun (j : Nat) G => G) (fun (j : Nat) H' => j ≤ besides.length ∧ besides.contains c13 = (besides.drop j).contains c13) (fun (j : Nat) => besides.length - j) 0 (upd_intro (mask_intro (by first | exact off_refl | (repeat (first | exact off_mask | refine off_upd rfl ?_ | refine off_mask2 rfl ?_)))) rfl) (lmask_intro offl_refl) ?_ ?_
        · exact ⟨Nat.zero_le _, by simp⟩
        · intro j J19 JL19 H19 hp18 hl19
          obtain ⟨hj1, hj2⟩ := hp18
          refine cw_seq ?_
          refine cw_region ?_
          refine ow1 (op1_l rfl (lo_lss rfl rfl) ?_)
          refine ow_nil ?_
          refine seqK_n ?_
          refine cw_seq ?_
          refine cw_cond rfl (fun h20 => ?_) (fun h20 => ?_)
          · have p21 := dt h20
            refine cw_skip ?_
            refine seqK_n ?_
            refine cw_seq ?_
            refine cw_block ?_
            refine cw_seq ?_
            refine cw_region ?_
            obtain ⟨c22, hc23⟩ := getE (xs := besides) (m := j) (by omega)
            obtain ⟨cs24, hE25, at26⟩ := (besides_h.mono ((((HLe.refl _).trans hl7).trans hl10).trans hl19) (fun _ _ h => h)).get hc23
            obtain ⟨rfl, c22_w⟩ := hE25
            have c22_w : c22.length ≤ 9223372036854775807 := c22_w
            refine ow1 (op1_l rfl (lo_indexAddr rfl rfl (besides_h.mono ((((HLe.refl _).trans hl7).trans hl10).trans hl19) (fun _ _ h => h)).1 at26 Tryz.underlying245 sz9 (by omega) (by omega)) ?_)
            refine ow1 (op1_l rfl (lo_loadE1 rfl ag9 at26) ?_)
            refine ow1 (op1_l rfl (lo_assign (v := str _) rfl) ?_)
            refine ow_nil ?_
            refine seqK_n ?_
            refine cw_seq ?_
            refine cw_region ?_
            refine ow1 (op1_l rfl (lo_move (v := str _) rfl) ?_)
            refine ow1 (op1_l rfl (lo_move (v := str _) rfl) ?_)
            refine ow1 (op1_l rfl (lo_seql rfl rfl) ?_)
            refine ow_nil ?_
            refine seqK_n ?_
            refine cw_cond rfl (fun h27 => ?_) (fun h27 => ?_)
            · have p28 := dt h27
              refine cw_exit ?_
              refine blkK_e rfl ?_
              refine seqK_e ?_
              refine loopK_e ?_
              refine blkK_e rfl ?_
              refine seqK_e ?_
              refine blkK_hit ?_
              refine seqK_n ?_
              refine cw_region ?_
              refine ow1 (op1_l rfl (lo_add rfl rfl (rg_i64 (by omega))) ?_)
              refine ow1 (op1_l rfl (lo_move (v := .int _ _) rfl) ?_)
              refine ow_nil ?_
              refine next1 (k + 1) (upd_intro (mask_intro (by first | exact off_refl | (repeat (first | exact off_mask | refine off_upd rfl ?_ | refine off_mask2 rfl ?_)))) rfl) (lmask_intro (by first | exact offl_refl | (repeat (first | exact offl_mask | refine offl_upd rfl ?_ | refine offl_mask2 rfl ?_)))) (hl10.trans hl19) ?_ ?_
              · refine ⟨by omega, ?_⟩
                rw [hk2, dropE hc14, List.any_cons]
                have hb : isBad besides c13 = false := by
                  unfold isBad
                  rw [hj2, dropE hc23]
                  simp [*]
                simp [hb]
              · omega
            · have p29 := df h27
              refine cw_skip ?_
              refine blkK_n ?_
              refine seqK_n ?_
              refine cw_region ?_
              refine ow1 (op1_l rfl (lo_add rfl rfl (rg_i64 (by omega))) ?_)
              refine ow1 (op1_l rfl (lo_move (v := .int _ _) rfl) ?_)
              refine ow_nil ?_
              refine next1 (j + 1) (upd_intro (mask_intro (by first | exact off_refl | (repeat (first | exact off_mask | refine off_upd rfl ?_ | refine off_mask2 rfl ?_)))) rfl) (lmask_intro (by first | exact offl_refl | (repeat (first | exact offl_mask | refine offl_upd rfl ?_ | refine offl_mask2 rfl ?_)))) hl19 ?_ ?_
              · refine ⟨by omega, ?_⟩
                rw [hj2, dropE hc23, List.contains_cons]
                simp [*]
              · omega
          · have p30 := df h20
            refine cw_exit ?_
            refine seqK_e ?_
            refine loopK_e ?_
            refine blkK_hit ?_
            refine seqK_n ?_
            refine cw_seq ?_
            refine cw_region ?_
            refine ow1 (op1_l rfl (lo_move (v := str _) rfl) ?_)
            refine ow1 (op1_l rfl (lo_seql rfl rfl) ?_)
            refine ow1 (op1_l rfl (lo_move (v := .bool _) rfl) ?_)
            refine ow_sp (j := 2) rfl (fun h31 => ?_) (fun h31 => ?_)
            · have p32 := dt h31
              refine ow1 (op1_gs rfl h31 rfl ?_)
              refine ow1 (op1_gs rfl h31 rfl ?_)
              refine ow1 (op1_gs rfl h31 rfl ?_)
              refine ow1 (op1_l rfl (lo_pick_t (v := .bool _) rfl h31 rfl) ?_)
              refine ow_nil ?_
              refine seqK_n ?_
              refine cw_cond_t rfl rfl ?_
              refine cw_seq ?_
              refine cw_region ?_
              refine ow1 (op1_l rfl (lo_assign (v := .int _ _) rfl) ?_)
              refine ow_nil ?_
              refine seqK_n ?_
              refine cw_ret ?_
              refine blkK_r ?_
              refine seqK_r ?_
              refine loopK_r ?_
              refine blkK_r ?_
              refine seqK_r ?_
              refine scK_r ?_
              refine fnK_r (res1 rfl (rv_t (v := .int _ _) rfl)) ((((HLe.refl _).trans hl7).trans hl10).trans hl19) ?_
              have hb : isBad besides c13 = true := by
                unfold isBad
                rw [hj2, List.drop_of_length_le (by omega)]
                simp [*]
              unfold keyE
              rw [if_neg (by omega), hk2, dropE hc14, List.any_cons, hb]
              rfl
            · have p33 := df h31
              refine ow1 (op1_g rfl h31 rfl (lo_move (v := str _) rfl) ?_)
              refine ow1 (op1_prg rfl h31 (words_plain _ c13 (by omega)) (en_f cb200 rfl) rfl ?_)
              refine ow1 (op1_g rfl h31 rfl (lo_not rfl) ?_)
              refine ow1 (op1_l rfl (lo_pick_f (v := .bool _) rfl h31 rfl) ?_)
              refine ow_nil ?_
              refine seqK_n ?_
              refine cw_cond rfl (fun h34 => ?_) (fun h34 => ?_)
              · have h35 := not_t h34
                refine cw_seq ?_
                refine cw_region ?_
                refine ow1 (op1_l rfl (lo_assign (v := .int _ _) rfl) ?_)
                refine ow_nil ?_
                refine seqK_n ?_
                refine cw_ret ?_
                refine blkK_r ?_
                refine seqK_r ?_
                refine loopK_r ?_
                refine blkK_r ?_
                refine seqK_r ?_
                refine scK_r ?_
                refine fnK_r (res1 rfl (rv_t (v := .int _ _) rfl)) ((((HLe.refl _).trans hl7).trans hl10).trans hl19) ?_
                have hb : isBad besides c13 = true := by
                  unfold isBad
                  rw [hj2, List.drop_of_length_le (by omega)]
                  simp [*]
                unfold keyE
                rw [if_neg (by omega), hk2, dropE hc14, List.any_cons, hb]
                rfl
              · have h36 := not_f h34
                refine cw_skip ?_
                refine blkK_n ?_
                refine seqK_n ?_
                refine cw_region ?_
                refine ow1 (op1_l rfl (lo_add rfl rfl (rg_i64 (by omega))) ?_)
                refine ow1 (op1_l rfl (lo_move (v := .int _ _) rfl) ?_)
                refine ow_nil ?_
                refine next1 (k + 1) (upd_intro (mask_intro (by first | exact off_refl | (repeat (first | exact off_mask | refine off_upd rfl ?_ | refine off_mask2 rfl ?_)))) rfl) (lmask_intro (by first | exact offl_refl | (repeat (first | exact offl_mask | refine offl_upd rfl ?_ | refine offl_mask2 rfl ?_)))) (hl10.trans hl19) ?_ ?_
                · refine ⟨by omega, ?_⟩
                  rw [hk2, dropE hc14, List.any_cons]
                  have hb : isBad besides c13 = false := by
                    unfold isBad
                    rw [hj2, List.drop_of_length_le (by omega)]
                    simp [*]
                  simp [hb]
                · omega
      · have p37 := df h11
        refine cw_exit ?_
        refine seqK_e ?_
        refine loopK_e ?_
        refine blkK_hit ?_
        refine seqK_n ?_
        refine cw_seq ?_
        refine cw_region ?_
        refine ow1 (op1_l rfl (lo_assign (v := .int _ _) rfl) ?_)
        refine ow_nil ?_
        refine seqK_n ?_
        refine cw_ret ?_
        refine scK_r ?_
        refine fnK_r (res1 rfl (rv_t (v := .int _ _) rfl)) (((HLe.refl _).trans hl7).trans hl10) ?_
        unfold keyE
        rw [if_neg (by omega), hk2, List.drop_of_length_le (by omega)]
        rfl

theorem words_Key (H : Hp) (s : Bs) (hML : GInt H 2) : Pr Tryz.prog 202 #[str s] H (.int .i64 (keyE [] s)) := by
  refine pr_cw Tryz.func202 rfl Tryz.ntmps202 rfl (fun N => ?_)
  refine cw_seq ?_
  refine cw_region ?_
  refine ow1 (op1_l rfl (lo_assign (v := .int _ _) rfl) ?_)
  refine ow_nil ?_
  refine seqK_n ?_
  refine cw_seq ?_
  refine cw_region ?_
  refine ow1 (op1_l rfl (lo_move (v := str _) rfl) ?_)
  refine ow1 (op1_pr (words_key _ s none 0 0 [] slh_nil hML (by first | (simp; done) | omega)) (en_f cb234 rfl) rfl ?_)
  refine ow1 (op1_l rfl (lo_assign (v := .int _ _) rfl) ?_)
  refine ow_nil ?_
  refine seqK_n ?_
  refine cw_ret ?_
  refine fnK_r (res1 rfl (rv_t (v := .int _ _) rfl)) (.refl _) ?_
  rfl

end Go.SW


set_option linter.unusedVariables false
set_option maxRecDepth 100000
set_option maxHeartbeats 4000000
namespace Go.SW
open Go.Proofs
theorem ag2 : Ag Tryz.prog 2 false := fun w => by kernel_rfl
theorem ag244 : Ag Tryz.prog 244 true := fun w => by kernel_rfl
theorem bd244  (w : World) : (Instr.build 244 #[]).run Tryz.prog w = .ok (.agg #[str [], .int .u8 0, .int .i64 0, str []]) w := by kernel_rfl
theorem cb116 : Callable Tryz.prog 116 := callable_of Tryz.func116 (by kernel_rfl) (by kernel_rfl)
theorem cb201 : Callable Tryz.prog 201 := callable_of Tryz.func201 (by kernel_rfl) (by kernel_rfl)
theorem cb233 : Callable Tryz.prog 233 := callable_of Tryz.func233 (by kernel_rfl) (by kernel_rfl)
theorem cb253 : Callable Tryz.prog 253 := callable_of Tryz.func253 (by kernel_rfl) (by kernel_rfl)
theorem cb254 : Callable Tryz.prog 254 := callable_of Tryz.func254 (by kernel_rfl) (by kernel_rfl)
theorem fl244_0 : Fld Tryz.prog 244 0 0 := fun b o w => by kernel_rfl
theorem fl244_1 : Fld Tryz.prog 244 1 1 := fun b o w => by kernel_rfl
theorem fl244_2 : Fld Tryz.prog 244 2 2 := fun b o w => by kernel_rfl
theorem fl244_3 : Fld Tryz.prog 244 3 3 := fun b o w => by kernel_rfl
theorem sz244 : Sz Tryz.prog 244 4 := fun w => by kernel_rfl
theorem zr244 : Zr Tryz.prog 244 [str [], .int .u8 0, .int .i64 0, str []] := fun w => ⟨.agg #[str [], .int .u8 0, .int .i64 0, str []], by kernel_rfl, rfl⟩

theorem head_Find (H : Hp) (h_a : Option Addr) (h_l h_c : Nat) (h : List Pair) (h_h : SlH pairE 4 H (.slice h_a h_l h_c) h) (key : Bs) (hl : h.length ≤ 9223372036854775807) : Pr Tryz.prog 233 #[.slice h_a h_l h_c, str key] H (.tuple #[.agg (Pair.cells ((findP h key).getD Pair.zero)).toArray, .bool ((findP h key).isSome)]) := by
  refine pr_cw Tryz.func233 rfl Tryz.ntmps233 rfl (fun N => ?_)
  refine cw_seq ?_
  refine cw_region ?_
  refine ow1 (op1_box1 (v := str _) 0 rfl rfl rfl (fun b1 => ?_))
  refine ow1 (op1_alloc 1 rfl zr244 (fun b2 => ?_))
  refine ow1 (op1_l rfl (lo_assign (v := .bool _) rfl) ?_)
  refine ow_nil ?_
  refine seqK_n ?_
  refine cw_seq ?_
  refine cw_region ?_
  refine ow1 (op1_l rfl (lo_move (v := .slice _ _ _) rfl) ?_)
  refine ow1 (op1_l rfl (lo_makeFunc (cap := [_]) rfl) ?_)
  refine ow1 (op1_in (en_f cb253 rfl) Tryz.func253 rfl Tryz.ntmps253 rfl rfl ?_)
  refine cw_seq ?_
  refine cw_region ?_
  refine ow1 (op1_l rfl (lo_assign (v := .int _ _) rfl) ?_)
  refine ow_nil ?_
  refine seqK_n ?_
  refine cw_seq ?_
  refine cw_seq ?_
  refine cw_region ?_
  refine ow1 (op1_l rfl (lo_move (v := .slice _ _ _) rfl) ?_)
  refine ow1 (op1_l rfl (lo_len_slh rfl h_h Tryz.underlying26) ?_)
  refine ow1 (op1_l rfl (lo_move (v := .int _ _) rfl) ?_)
  refine ow_nil ?_
  refine seqK_n ?_
  refine cw_block ?_
  refine cw_loop1 [4, 5, 8, 9, 10, 11, 12, 13, 14, 15, 16, 17, 18] [2] (fun (k : Nat) G => upd (G) 8 (.int .i64 (k : Int))) (fun (k : Nat) G => G) (fun (k : Nat) H' => k ≤ h.length ∧ findP h key = findP (h.drop k) key) (fun (k : Nat) => h.length - k) 0 (upd_intro (mask_intro (by first | exact off_refl | (repeat (first | exact off_mask | refine off_upd rfl ?_ | refine off_mask2 rfl ?_)))) rfl) (lmask_intro offl_refl) ?_ ?_
  · exact ⟨Nat.zero_le _, rfl⟩
  · intro k J4 JL4 H4 hp3 hl4
    obtain ⟨hk1, hk2⟩ := hp3
    refine cw_seq ?_
    refine cw_region ?_
    refine ow1 (op1_l rfl (lo_lss rfl rfl) ?_)
    refine ow_nil ?_
    refine seqK_n ?_
    refine cw_seq ?_
    refine cw_cond rfl (fun h5 => ?_) (fun h5 => ?_)
    · have p6 := dt h5
      refine cw_skip ?_
      refine seqK_n ?_
      refine cw_seq ?_
      refine cw_block ?_
      refine cw_seq ?_
      refine cw_region ?_
      refine ow1 (op1_l rfl (lo_move (v := .int _ _) rfl) ?_)
      refine ow1 (op1_l rfl (lo_assign (v := .int _ _) rfl) ?_)
      refine ow_nil ?_
      refine seqK_n ?_
      refine cw_seq ?_
      refine cw_region ?_
      refine ow1 (op1_l rfl (lo_move rfl) ?_)
      refine ow1 (op1_l rfl (lo_move (v := .slice _ _ _) rfl) ?_)
      refine ow1 (op1_l rfl (lo_move (v := .int _ _) rfl) ?_)
      obtain ⟨c7, hc8⟩ := getE (xs := h) (m := k) (by omega)
      obtain ⟨cs9, hE10, at11⟩ := (h_h.mono ((HLe.refl _).trans hl4) (fun _ _ h => h)).get hc8
      obtain ⟨rfl, c7_w⟩ := hE10
      have c7_w' := c7_w
      simp only [Pair.wf] at c7_w'
      refine ow1 (op1_l rfl (lo_indexAddr rfl rfl (h_h.mono ((HLe.refl _).trans hl4) (fun _ _ h => h)).1 at11 Tryz.underlying26 sz244 (by omega) (by omega)) ?_)
      refine ow1 (op1_l rfl (lo_loadEA rfl ag244 sz244 at11) ?_)
      refine ow1 (op1_in (en_v rfl cb254 rfl) Tryz.func254 rfl Tryz.ntmps254 rfl rfl ?_)
      refine cw_seq ?_
      refine cw_region ?_
      refine ow1 (op1_box (cs := [_, _, _, _]) 2 rfl rfl (fun b12 => ?_))
      refine ow1 (op1_l rfl (lo_assign (v := .bool _) rfl) ?_)
      refine ow_nil ?_
      refine seqK_n ?_
      refine cw_seq ?_
      refine cw_region ?_
      refine ow1 (op1_l rfl (lo_fieldAddr rfl fl244_0) ?_)
      refine ow1 (op1_l rfl (lo_load1 (i := 2) (v := str _) rfl ag9 rfl rfl) ?_)
      refine ow1 (op1_l rfl (lo_load1 (i := 0) (v := str _) rfl ag9 rfl rfl) ?_)
      refine ow1 (op1_l rfl (lo_seql rfl rfl) ?_)
      refine ow1 (op1_l rfl (lo_assign (v := .bool _) rfl) ?_)
      refine ow_nil ?_
      refine seqK_n ?_
      refine cw_ret ?_
      refine fnK_r (res1 rfl (rv_t (v := .bool _) rfl)) (.refl _) ?_
      refine ow_nil ?_
      refine seqK_n ?_
      refine cw_cond rfl (fun h13 => ?_) (fun h13 => ?_)
      · have p14 := dt h13
        refine cw_seq ?_
        refine cw_region ?_
        refine ow1 (op1_l rfl (lo_move (v := .int _ _) rfl) ?_)
        refine ow1 (op1_l rfl (lo_assign (v := .int _ _) rfl) ?_)
        refine ow_nil ?_
        refine seqK_n ?_
        refine cw_ret ?_
        refine blkK_r ?_
        refine seqK_r ?_
        refine loopK_r ?_
        refine blkK_r ?_
        refine seqK_r ?_
        refine fnK_r (res1 rfl (rv_t (v := .int _ _) rfl)) ((HLe.refl _).trans hl4) ?_
        refine ow1 (op1_l rfl (lo_assign (v := .int _ _) rfl) ?_)
        refine ow_nil ?_
        refine seqK_n ?_
        refine cw_seq ?_
        refine cw_seq ?_
        refine cw_region ?_
        refine ow1 (op1_l rfl (lo_move (v := .int _ _) rfl) ?_)
        refine ow1 (op1_l rfl (lo_lss rfl rfl) ?_)
        refine ow_nil ?_
        refine seqK_n ?_
        refine cw_cond rfl (fun h15 => ?_) (fun h15 => ?_)
        · have p16 := dt h15
          refine cw_seq ?_
          refine cw_region ?_
          refine ow1 (op1_l rfl (lo_build (v := .agg #[_, _, _, _]) rfl (bd244)) ?_)
          refine ow1 (op1_storeA (i := 1) (vs := [_, _, _, _]) rfl rfl rfl sz244 rfl rfl rfl ?_)
          refine ow1 (op1_l rfl (lo_assign (v := .bool _) rfl) ?_)
          refine ow_nil ?_
          refine seqK_n ?_
          refine cw_ret ?_
          refine seqK_r ?_
          refine fnK_r (res2 rfl (rv_c (i := 1) (vs := [_, _, _, _]) rfl ag244 sz244 rfl rfl rfl) (rv_t (v := .bool _) rfl)) ((HLe.refl _).trans hl4) ?_
          first
            | (exfalso; omega)
            | (rw [List.drop_of_length_le (by omega)] at hk2; rw [hk2]; rfl)
        · have p17 := df h15
          refine cw_skip ?_
          refine seqK_n ?_
          refine cw_seq ?_
          refine cw_region ?_
          refine ow1 (op1_l rfl (lo_move (v := .slice _ _ _) rfl) ?_)
          refine ow1 (op1_l rfl (lo_move (v := .int _ _) rfl) ?_)
          refine ow1 (op1_l rfl (lo_indexAddr rfl rfl (h_h.mono ((HLe.refl _).trans hl4) (fun _ _ h => h)).1 at11 Tryz.underlying26 sz244 (by omega) (by omega)) ?_)
          refine ow1 (op1_l rfl (lo_loadEA rfl ag244 sz244 at11) ?_)
          refine ow1 (op1_storeA (i := 1) (vs := [_, _, _, _]) rfl rfl rfl sz244 rfl rfl rfl ?_)
          refine ow1 (op1_l rfl (lo_assign (v := .bool _) rfl) ?_)
          refine ow_nil ?_
          refine seqK_n ?_
          refine cw_ret ?_
          refine fnK_r (res2 rfl (rv_c (i := 1) (vs := [_, _, _, _]) rfl ag244 sz244 rfl rfl rfl) (rv_t (v := .bool _) rfl)) ((HLe.refl _).trans hl4) ?_
          have e := findP_hit hk2 (dropE hc8) (by assumption)
          rw [e]
          rfl
      · have p18 := df h13
        refine cw_skip ?_
        refine blkK_n ?_
        refine seqK_n ?_
        refine cw_region ?_
        refine ow1 (op1_l rfl (lo_add rfl rfl (rg_i64 (by omega))) ?_)
        refine ow1 (op1_l rfl (lo_move (v := .int _ _) rfl) ?_)
        refine ow_nil ?_
        refine next1 (k + 1) (upd_intro (mask_intro (by first | exact off_refl | (repeat (first | exact off_mask | refine off_upd rfl ?_ | refine off_mask2 rfl ?_)))) rfl) (lmask_intro (by first | exact offl_refl | (repeat (first | exact offl_mask | refine offl_upd rfl ?_ | refine offl_mask2 rfl ?_)))) hl4 ?_ ?_
        · exact ⟨by omega, findP_miss hk2 (dropE hc8) (by assumption)⟩
        · omega
    · have p19 := df h5
      refine cw_exit ?_
      refine seqK_e ?_
      refine loopK_e ?_
      refine blkK_hit ?_
      refine seqK_n ?_
      refine cw_seq ?_
      refine cw_region ?_
      refine ow1 (op1_l rfl (lo_assign (v := .int _ _) rfl) ?_)
      refine ow_nil ?_
      refine seqK_n ?_
      refine cw_ret ?_
      refine fnK_r (res1 rfl (rv_t (v := .int _ _) rfl)) ((HLe.refl _).trans hl4) ?_
      refine ow1 (op1_l rfl (lo_assign (v := .int _ _) rfl) ?_)
      refine ow_nil ?_
      refine seqK_n ?_
      refine cw_seq ?_
      refine cw_seq ?_
      refine cw_region ?_
      refine ow1 (op1_l rfl (lo_move (v := .int _ _) rfl) ?_)
      refine ow1 (op1_l rfl (lo_lss rfl rfl) ?_)
      refine ow_nil ?_
      refine seqK_n ?_
      refine cw_cond_t rfl (by decide) ?_
      refine cw_seq ?_
      refine cw_region ?_
      refine ow1 (op1_l rfl (lo_build (v := .agg #[_, _, _, _]) rfl (bd244)) ?_)
      refine ow1 (op1_storeA (i := 1) (vs := [_, _, _, _]) rfl rfl rfl sz244 rfl rfl rfl ?_)
      refine ow1 (op1_l rfl (lo_assign (v := .bool _) rfl) ?_)
      refine ow_nil ?_
      refine seqK_n ?_
      refine cw_ret ?_
      refine seqK_r ?_
      refine fnK_r (res2 rfl (rv_c (i := 1) (vs := [_, _, _, _]) rfl ag244 sz244 rfl rfl rfl) (rv_t (v := .bool _) rfl)) ((HLe.refl _).trans hl4) ?_
      first
        | (exfalso; omega)
        | (rw [List.drop_of_length_le (by omega)] at hk2; rw [hk2]; rfl)

theorem head_pair (H : Hp) (p : Pair) (p_w : Pair.wf p) (ahead_a : Option Addr) (ahead_l ahead_c : Nat) (ahead : List Pair) (ahead_h : SlH pairE 4 H (.slice ahead_a ahead_l ahead_c) ahead) (hl : ahead.length ≤ 9223372036854775807) : Pr Tryz.prog 201 #[.agg (Pair.cells p).toArray, .slice ahead_a ahead_l ahead_c] H (.int .i64 (pairErr p ahead)) := by
  refine pr_cw Tryz.func201 rfl Tryz.ntmps201 rfl (fun N => ?_)
  have p_w' := p_w
  simp only [Pair.wf] at p_w'
  refine cw_seq ?_
  refine cw_region ?_
  refine ow1 (op1_box (cs := [_, _, _, _]) 0 rfl rfl (fun b1 => ?_))
  refine ow1 (op1_l rfl (lo_assign (v := .int _ _) rfl) ?_)
  refine ow_nil ?_
  refine seqK_n ?_
  refine cw_seq ?_
  refine cw_seq ?_
  refine cw_region ?_
  refine ow1 (op1_l rfl (lo_fieldAddr rfl fl244_0) ?_)
  refine ow1 (op1_l rfl (lo_load1 (i := 0) (v := str _) rfl ag9 rfl rfl) ?_)
  refine ow1 (op1_pr (words_Name _ p.key (by first | omega | decide | (simp; done))) (en_f cb116 rfl) rfl ?_)
  refine ow1 (op1_l rfl (lo_assign (v := .int _ _) rfl) ?_)
  refine ow_nil ?_
  refine seqK_n ?_
  refine cw_seq ?_
  refine cw_region ?_
  refine ow1 (op1_l rfl (lo_move (v := .int _ _) rfl) ?_)
  refine ow1 (op1_l rfl (lo_neq rfl rfl) ?_)
  refine ow_nil ?_
  refine seqK_n ?_
  refine cw_cond rfl (fun h2 => ?_) (fun h2 => ?_)
  · have h3 := not_t h2
    have p4 := df h3
    refine cw_seq ?_
    refine cw_region ?_
    refine ow1 (op1_l rfl (lo_move (v := .int _ _) rfl) ?_)
    refine ow1 (op1_l rfl (lo_assign (v := .int _ _) rfl) ?_)
    refine ow_nil ?_
    refine seqK_n ?_
    refine cw_ret ?_
    refine seqK_r ?_
    refine fnK_r (res1 rfl (rv_t (v := .int _ _) rfl)) (.refl _) ?_
    first | (simp [pairErr, *]; done) | (simp [pairErr, *]; omega)
  · have h5 := not_f h2
    have p6 := dt h5
    refine cw_skip ?_
    refine seqK_n ?_
    refine cw_seq ?_
    refine cw_region ?_
    refine ow1 (op1_l rfl (lo_move (v := .slice _ _ _) rfl) ?_)
    refine ow1 (op1_l rfl (lo_fieldAddr rfl fl244_0) ?_)
    refine ow1 (op1_l rfl (lo_load1 (i := 0) (v := str _) rfl ag9 rfl rfl) ?_)
    refine ow1 (op1_pr (head_Find _ ahead_a ahead_l ahead_c ahead ahead_h p.key (by first | omega | (simp <;> omega))) (en_f cb233 rfl) rfl ?_)
    refine ow1 (op1_l rfl (lo_move (v := .tuple #[_, _]) rfl) ?_)
    refine ow1 (op1_l rfl (lo_extract (v := .agg #[_, _, _, _]) rfl rfl) ?_)
    refine ow1 (op1_l rfl (lo_extract (v := .bool _) rfl rfl) ?_)
    refine ow1 (op1_alloc 1 rfl zr244 (fun b7 => ?_))
    refine ow1 (op1_storeA (i := 1) (vs := [_, _, _, _]) rfl rfl rfl sz244 rfl rfl rfl ?_)
    refine ow1 (op1_l rfl (lo_assign (v := .bool _) rfl) ?_)
    refine ow_nil ?_
    refine seqK_n ?_
    refine cw_seq ?_
    refine cw_block ?_
    refine cw_seq ?_
    refine cw_region ?_
    refine ow1 (op1_l rfl (lo_fieldAddr rfl fl244_1) ?_)
    refine ow1 (op1_l rfl (lo_load1 (i := 0) (v := .int _ _) rfl ag5 rfl rfl) ?_)
    refine ow1 (op1_l rfl (lo_gtr rfl rfl) ?_)
    refine ow1 (op1_l rfl (lo_assign (v := .bool _) rfl) ?_)
    refine ow_nil ?_
    refine seqK_n ?_
    refine cw_cond rfl (fun h8 => ?_) (fun h8 => ?_)
    · have p9 := dt h8
      refine cw_seq ?_
      refine cw_region ?_
      refine ow1 (op1_l rfl (lo_assign (v := .int _ _) rfl) ?_)
      refine ow_nil ?_
      refine seqK_n ?_
      refine cw_ret ?_
      refine blkK_r ?_
      refine seqK_r ?_
      refine fnK_r (res1 rfl (rv_t (v := .int _ _) rfl)) (.refl _) ?_
      first | (simp [pairErr, *]; done) | (simp [pairErr, *]; omega)
    · have p10 := df h8
      refine cw_seq ?_
      refine cw_region ?_
      refine ow1 (op1_l rfl (lo_fieldAddr rfl fl244_1) ?_)
      refine ow1 (op1_l rfl (lo_load1 (i := 0) (v := .int _ _) rfl ag5 rfl rfl) ?_)
      refine ow1 (op1_l rfl (lo_eql rfl rfl) ?_)
      refine ow1 (op1_l rfl (lo_move (v := .bool _) rfl) ?_)
      refine ow_sp (j := 3) rfl (fun h11 => ?_) (fun h11 => ?_)
      · have p12 := dt h11
        refine ow1 (op1_g rfl h11 rfl (lo_fieldAddr rfl fl244_3) ?_)
        refine ow1 (op1_g rfl h11 rfl (lo_load1 (i := 0) (v := str _) rfl ag9 rfl rfl) ?_)
        refine ow1 (op1_g rfl h11 rfl (lo_len_str rfl Tryz.underlying9) ?_)
        refine ow1 (op1_g rfl h11 rfl (lo_gtr rfl rfl) ?_)
        refine ow1 (op1_l rfl (lo_pick_t (v := .bool _) rfl h11 rfl) ?_)
        refine ow1 (op1_l rfl (lo_assign (v := .bool _) rfl) ?_)
        refine ow_nil ?_
        refine seqK_n ?_
        refine cw_cond rfl (fun h13 => ?_) (fun h13 => ?_)
        · have p14 := dt h13
          refine cw_seq ?_
          refine cw_region ?_
          refine ow1 (op1_l rfl (lo_assign (v := .int _ _) rfl) ?_)
          refine ow_nil ?_
          refine seqK_n ?_
          refine cw_ret ?_
          refine blkK_r ?_
          refine seqK_r ?_
          refine fnK_r (res1 rfl (rv_t (v := .int _ _) rfl)) (.refl _) ?_
          first | (simp [pairErr, *]; done) | (simp [pairErr, *]; omega)
        · have p15 := df h13
          refine cw_seq ?_
          refine cw_region ?_
          refine ow1 (op1_l rfl (lo_fieldAddr rfl fl244_1) ?_)
          refine ow1 (op1_l rfl (lo_load1 (i := 0) (v := .int _ _) rfl ag5 rfl rfl) ?_)
          refine ow1 (op1_l rfl (lo_eql rfl rfl) ?_)
          refine ow1 (op1_l rfl (lo_move (v := .bool _) rfl) ?_)
          refine ow1 (op1_gs rfl (fd (by omega)) rfl ?_)
          refine ow1 (op1_gs rfl (fd (by omega)) rfl ?_)
          refine ow1 (op1_gs rfl (fd (by omega)) rfl ?_)
          refine ow1 (op1_l rfl (lo_pick_f (v := .bool _) rfl (fd (by omega)) rfl) ?_)
          refine ow1 (op1_l rfl (lo_move (v := .bool _) rfl) ?_)
          refine ow1 (op1_gs rfl rfl rfl ?_)
          refine ow1 (op1_gs rfl rfl rfl ?_)
          refine ow1 (op1_gs rfl rfl rfl ?_)
          refine ow1 (op1_l rfl (lo_pick_f (v := .bool _) rfl rfl rfl) ?_)
          refine ow1 (op1_l rfl (lo_assign (v := .bool _) rfl) ?_)
          refine ow_nil ?_
          refine seqK_n ?_
          refine cw_cond_f rfl rfl ?_
          refine cw_seq ?_
          refine cw_seq ?_
          refine cw_region ?_
          refine ow1 (op1_l rfl (lo_fieldAddr rfl fl244_1) ?_)
          refine ow1 (op1_l rfl (lo_load1 (i := 0) (v := .int _ _) rfl ag5 rfl rfl) ?_)
          refine ow1 (op1_l rfl (lo_eql rfl rfl) ?_)
          refine ow1 (op1_l rfl (lo_move (v := .bool _) rfl) ?_)
          refine ow1 (op1_g rfl h11 rfl (lo_fieldAddr rfl fl244_2) ?_)
          refine ow1 (op1_g rfl h11 rfl (lo_load1 (i := 0) (v := .int _ _) rfl ag2 rfl rfl) ?_)
          refine ow1 (op1_g rfl h11 rfl (lo_neq rfl rfl) ?_)
          refine ow1 (op1_l rfl (lo_pick_t (v := .bool _) rfl h11 rfl) ?_)
          refine ow1 (op1_l rfl (lo_assign (v := .bool _) rfl) ?_)
          refine ow_nil ?_
          refine seqK_n ?_
          refine cw_cond rfl (fun h16 => ?_) (fun h16 => ?_)
          · have h17 := not_t h16
            have p18 := df h17
            refine cw_skip ?_
            refine seqK_n ?_
            refine cw_cond_t rfl h16 ?_
            refine cw_seq ?_
            refine cw_region ?_
            refine ow1 (op1_l rfl (lo_assign (v := .int _ _) rfl) ?_)
            refine ow_nil ?_
            refine seqK_n ?_
            refine cw_ret ?_
            refine blkK_r ?_
            refine seqK_r ?_
            refine fnK_r (res1 rfl (rv_t (v := .int _ _) rfl)) (.refl _) ?_
            first | (simp [pairErr, *]; done) | (simp [pairErr, *]; omega)
          · have h19 := not_f h16
            have p20 := dt h19
            refine cw_region ?_
            refine ow1 (op1_l rfl (lo_fieldAddr rfl fl244_1) ?_)
            refine ow1 (op1_l rfl (lo_load1 (i := 0) (v := .int _ _) rfl ag5 rfl rfl) ?_)
            refine ow1 (op1_l rfl (lo_neq rfl rfl) ?_)
            refine ow1 (op1_l rfl (lo_move (v := .bool _) rfl) ?_)
            refine ow1 (op1_gs rfl (by rw [h11] <;> rfl) rfl ?_)
            refine ow1 (op1_gs rfl (by rw [h11] <;> rfl) rfl ?_)
            refine ow1 (op1_gs rfl (by rw [h11] <;> rfl) rfl ?_)
            refine ow1 (op1_l rfl (lo_pick_f (v := .bool _) rfl (by rw [h11] <;> rfl) rfl) ?_)
            refine ow1 (op1_l rfl (lo_assign (v := .bool _) rfl) ?_)
            refine ow_nil ?_
            refine seqK_n ?_
            refine cw_cond_f rfl rfl ?_
            refine cw_seq ?_
            refine cw_region ?_
            refine ow1 (op1_l rfl (lo_move (v := .bool _) rfl) ?_)
            refine ow1 (op1_l rfl (lo_assign (v := .bool _) rfl) ?_)
            refine ow_nil ?_
            refine seqK_n ?_
            refine cw_cond rfl (fun h21 => ?_) (fun h21 => ?_)
            · refine cw_seq ?_
              refine cw_region ?_
              refine ow1 (op1_l rfl (lo_assign (v := .int _ _) rfl) ?_)
              refine ow_nil ?_
              refine seqK_n ?_
              refine cw_ret ?_
              refine blkK_r ?_
              refine seqK_r ?_
              refine fnK_r (res1 rfl (rv_t (v := .int _ _) rfl)) (.refl _) ?_
              first | (simp [pairErr, *]; done) | (simp [pairErr, *]; omega)
            · refine cw_skip ?_
              refine blkK_n ?_
              refine seqK_n ?_
              refine cw_seq ?_
              refine cw_region ?_
              refine ow1 (op1_l rfl (lo_assign (v := .int _ _) rfl) ?_)
              refine ow_nil ?_
              refine seqK_n ?_
              refine cw_ret ?_
              refine fnK_r (res1 rfl (rv_t (v := .int _ _) rfl)) (.refl _) ?_
              first | (simp [pairErr, *]; done) | (simp [pairErr, *]; omega)
      · have p22 := df h11
        refine ow1 (op1_gs rfl h11 rfl ?_)
        refine ow1 (op1_gs rfl h11 rfl ?_)
        refine ow1 (op1_gs rfl h11 rfl ?_)
        refine ow1 (op1_gs rfl h11 rfl ?_)
        refine ow1 (op1_l rfl (lo_pick_f (v := .bool _) rfl h11 rfl) ?_)
        refine ow1 (op1_l rfl (lo_assign (v := .bool _) rfl) ?_)
        refine ow_nil ?_
        refine seqK_n ?_
        refine cw_cond_f rfl rfl ?_
        refine cw_seq ?_
        refine cw_region ?_
        refine ow1 (op1_l rfl (lo_fieldAddr rfl fl244_1) ?_)
        refine ow1 (op1_l rfl (lo_load1 (i := 0) (v := .int _ _) rfl ag5 rfl rfl) ?_)
        refine ow1 (op1_l rfl (lo_eql rfl rfl) ?_)
        refine ow1 (op1_l rfl (lo_move (v := .bool _) rfl) ?_)
        refine ow_sp (j := 3) rfl (fun h23 => ?_) (fun h23 => ?_)
        · have p24 := dt h23
          refine ow1 (op1_g rfl h23 rfl (lo_fieldAddr rfl fl244_2) ?_)
          refine ow1 (op1_g rfl h23 rfl (lo_load1 (i := 0) (v := .int _ _) rfl ag2 rfl rfl) ?_)
          refine ow1 (op1_g rfl h23 rfl (lo_neq rfl rfl) ?_)
          refine ow1 (op1_l rfl (lo_pick_t (v := .bool _) rfl h23 rfl) ?_)
          refine ow1 (op1_l rfl (lo_move (v := .bool _) rfl) ?_)
          refine ow_sp (j := 8) rfl (fun h25 => ?_) (fun h25 => ?_)
          · have h26 := not_t h25
            have p27 := df h26
            refine ow1 (op1_g rfl h25 rfl (lo_fieldAddr rfl fl244_2) ?_)
            refine ow1 (op1_g rfl h25 rfl (lo_load1 (i := 0) (v := .int _ _) rfl ag2 rfl rfl) ?_)
            refine ow1 (op1_g rfl h25 rfl (lo_neq rfl rfl) ?_)
            refine ow1 (op1_l rfl (lo_pick_t (v := .bool _) rfl h25 rfl) ?_)
            refine ow1 (op1_l rfl (lo_assign (v := .bool _) rfl) ?_)
            refine ow_nil ?_
            refine seqK_n ?_
            refine cw_cond rfl (fun h28 => ?_) (fun h28 => ?_)
            · have h29 := not_t h28
              have p30 := df h29
              refine cw_seq ?_
              refine cw_region ?_
              refine ow1 (op1_l rfl (lo_assign (v := .int _ _) rfl) ?_)
              refine ow_nil ?_
              refine seqK_n ?_
              refine cw_ret ?_
              refine blkK_r ?_
              refine seqK_r ?_
              refine fnK_r (res1 rfl (rv_t (v := .int _ _) rfl)) (.refl _) ?_
              first | (simp [pairErr, *]; done) | (simp [pairErr, *]; omega)
            · have h31 := not_f h28
              have p32 := dt h31
              refine cw_seq ?_
              refine cw_seq ?_
              refine cw_region ?_
              refine ow1 (op1_l rfl (lo_fieldAddr rfl fl244_1) ?_)
              refine ow1 (op1_l rfl (lo_load1 (i := 0) (v := .int _ _) rfl ag5 rfl rfl) ?_)
              refine ow1 (op1_l rfl (lo_eql rfl rfl) ?_)
              refine ow1 (op1_l rfl (lo_move (v := .bool _) rfl) ?_)
              refine ow1 (op1_gs rfl h11 rfl ?_)
              refine ow1 (op1_gs rfl h11 rfl ?_)
              refine ow1 (op1_gs rfl h11 rfl ?_)
              refine ow1 (op1_l rfl (lo_pick_f (v := .bool _) rfl h11 rfl) ?_)
              refine ow1 (op1_l rfl (lo_assign (v := .bool _) rfl) ?_)
              refine ow_nil ?_
              refine seqK_n ?_
              refine cw_cond_f rfl rfl ?_
              refine cw_region ?_
              refine ow1 (op1_l rfl (lo_fieldAddr rfl fl244_1) ?_)
              refine ow1 (op1_l rfl (lo_load1 (i := 0) (v := .int _ _) rfl ag5 rfl rfl) ?_)
              refine ow1 (op1_l rfl (lo_neq rfl rfl) ?_)
              refine ow1 (op1_l rfl (lo_move (v := .bool _) rfl) ?_)
              refine ow1 (op1_g rfl (by rw [h11] <;> rfl) rfl (lo_fieldAddr rfl fl244_3) ?_)
              refine ow1 (op1_g rfl (by rw [h11] <;> rfl) rfl (lo_load1 (i := 0) (v := str _) rfl ag9 rfl rfl) ?_)
              refine ow1 (op1_g rfl (by rw [h11] <;> rfl) rfl (lo_sneq rfl rfl) ?_)
              refine ow1 (op1_l rfl (lo_pick_t (v := .bool _) rfl (by rw [h11] <;> rfl) rfl) ?_)
              refine ow1 (op1_l rfl (lo_assign (v := .bool _) rfl) ?_)
              refine ow_nil ?_
              refine seqK_n ?_
              refine cw_cond rfl (fun h33 => ?_) (fun h33 => ?_)
              · have h34 := not_t h33
                have p35 := df h34
                refine cw_seq ?_
                refine cw_region ?_
                refine ow1 (op1_l rfl (lo_assign (v := .int _ _) rfl) ?_)
                refine ow_nil ?_
                refine seqK_n ?_
                refine cw_ret ?_
                refine blkK_r ?_
                refine seqK_r ?_
                refine fnK_r (res1 rfl (rv_t (v := .int _ _) rfl)) (.refl _) ?_
                first | (simp [pairErr, *]; done) | (simp [pairErr, *]; omega)
              · have h36 := not_f h33
                have p37 := dt h36
                refine cw_seq ?_
                refine cw_region ?_
                refine ow1 (op1_l rfl (lo_move (v := .bool _) rfl) ?_)
                refine ow1 (op1_l rfl (lo_assign (v := .bool _) rfl) ?_)
                refine ow_nil ?_
                refine seqK_n ?_
                refine cw_cond rfl (fun h38 => ?_) (fun h38 => ?_)
                · refine cw_seq ?_
                  refine cw_region ?_
                  refine ow1 (op1_l rfl (lo_assign (v := .int _ _) rfl) ?_)
                  refine ow_nil ?_
                  refine seqK_n ?_
                  refine cw_ret ?_
                  refine blkK_r ?_
                  refine seqK_r ?_
                  refine fnK_r (res1 rfl (rv_t (v := .int _ _) rfl)) (.refl _) ?_
                  first | (simp [pairErr, *]; done) | (simp [pairErr, *]; omega)
                · refine cw_skip ?_
                  refine blkK_n ?_
                  refine seqK_n ?_
                  refine cw_seq ?_
                  refine cw_region ?_
                  refine ow1 (op1_l rfl (lo_assign (v := .int _ _) rfl) ?_)
                  refine ow_nil ?_
                  refine seqK_n ?_
                  refine cw_ret ?_
                  refine fnK_r (res1 rfl (rv_t (v := .int _ _) rfl)) (.refl _) ?_
                  first | (simp [pairErr, *]; done) | (simp [pairErr, *]; omega)
          · have h39 := not_f h25
            have p40 := dt h39
            refine ow1 (op1_gs rfl h25 rfl ?_)
            refine ow1 (op1_gs rfl h25 rfl ?_)
            refine ow1 (op1_gs rfl h25 rfl ?_)
            refine ow1 (op1_l rfl (lo_pick_f (v := .bool _) rfl h25 rfl) ?_)
            refine ow1 (op1_l rfl (lo_assign (v := .bool _) rfl) ?_)
            refine ow_nil ?_
            refine seqK_n ?_
            refine cw_cond_f rfl rfl ?_
            refine cw_seq ?_
            refine cw_seq ?_
            refine cw_region ?_
            refine ow1 (op1_l rfl (lo_fieldAddr rfl fl244_1) ?_)
            refine ow1 (op1_l rfl (lo_load1 (i := 0) (v := .int _ _) rfl ag5 rfl rfl) ?_)
            refine ow1 (op1_l rfl (lo_eql rfl rfl) ?_)
            refine ow1 (op1_l rfl (lo_move (v := .bool _) rfl) ?_)
            refine ow1 (op1_gs rfl h11 rfl ?_)
            refine ow1 (op1_gs rfl h11 rfl ?_)
            refine ow1 (op1_gs rfl h11 rfl ?_)
            refine ow1 (op1_l rfl (lo_pick_f (v := .bool _) rfl h11 rfl) ?_)
            refine ow1 (op1_l rfl (lo_assign (v := .bool _) rfl) ?_)
            refine ow_nil ?_
            refine seqK_n ?_
            refine cw_cond_f rfl rfl ?_
            refine cw_region ?_
            refine ow1 (op1_l rfl (lo_fieldAddr rfl fl244_1) ?_)
            refine ow1 (op1_l rfl (lo_load1 (i := 0) (v := .int _ _) rfl ag5 rfl rfl) ?_)
            refine ow1 (op1_l rfl (lo_neq rfl rfl) ?_)
            refine ow1 (op1_l rfl (lo_move (v := .bool _) rfl) ?_)
            refine ow1 (op1_g rfl (by rw [h11] <;> rfl) rfl (lo_fieldAddr rfl fl244_3) ?_)
            refine ow1 (op1_g rfl (by rw [h11] <;> rfl) rfl (lo_load1 (i := 0) (v := str _) rfl ag9 rfl rfl) ?_)
            refine ow1 (op1_g rfl (by rw [h11] <;> rfl) rfl (lo_sneq rfl rfl) ?_)
            refine ow1 (op1_l rfl (lo_pick_t (v := .bool _) rfl (by rw [h11] <;> rfl) rfl) ?_)
            refine ow1 (op1_l rfl (lo_assign (v := .bool _) rfl) ?_)
            refine ow_nil ?_
            refine seqK_n ?_
            refine cw_cond rfl (fun h41 => ?_) (fun h41 => ?_)
            · have h42 := not_t h41
              have p43 := df h42
              refine cw_seq ?_
              refine cw_region ?_
              refine ow1 (op1_l rfl (lo_assign (v := .int _ _) rfl) ?_)
              refine ow_nil ?_
              refine seqK_n ?_
              refine cw_ret ?_
              refine blkK_r ?_
              refine seqK_r ?_
              refine fnK_r (res1 rfl (rv_t (v := .int _ _) rfl)) (.refl _) ?_
              first | (simp [pairErr, *]; done) | (simp [pairErr, *]; omega)
            · have h44 := not_f h41
              have p45 := dt h44
              refine cw_seq ?_
              refine cw_region ?_
              refine ow1 (op1_l rfl (lo_move (v := .bool _) rfl) ?_)
              refine ow1 (op1_l rfl (lo_assign (v := .bool _) rfl) ?_)
              refine ow_nil ?_
              refine seqK_n ?_
              refine cw_cond rfl (fun h46 => ?_) (fun h46 => ?_)
              · refine cw_seq ?_
                refine cw_region ?_
                refine ow1 (op1_l rfl (lo_assign (v := .int _ _) rfl) ?_)
                refine ow_nil ?_
                refine seqK_n ?_
                refine cw_ret ?_
                refine blkK_r ?_
                refine seqK_r ?_
                refine fnK_r (res1 rfl (rv_t (v := .int _ _) rfl)) (.refl _) ?_
                first | (simp [pairErr, *]; done) | (simp [pairErr, *]; omega)
              · refine cw_skip ?_
                refine blkK_n ?_
                refine seqK_n ?_
                refine cw_seq ?_
                refine cw_region ?_
                refine ow1 (op1_l rfl (lo_assign (v := .int _ _) rfl) ?_)
                refine ow_nil ?_
                refine seqK_n ?_
                refine cw_ret ?_
                refine fnK_r (res1 rfl (rv_t (v := .int _ _) rfl)) (.refl _) ?_
                first | (simp [pairErr, *]; done) | (simp [pairErr, *]; omega)
        · have p47 := df h23
          refine ow1 (op1_gs rfl h23 rfl ?_)
          refine ow1 (op1_gs rfl h23 rfl ?_)
          refine ow1 (op1_gs rfl h23 rfl ?_)
          refine ow1 (op1_l rfl (lo_pick_f (v := .bool _) rfl h23 rfl) ?_)
          refine ow1 (op1_l rfl (lo_move (v := .bool _) rfl) ?_)
          refine ow1 (op1_gs rfl rfl rfl ?_)
          refine ow1 (op1_gs rfl rfl rfl ?_)
          refine ow1 (op1_gs rfl rfl rfl ?_)
          refine ow1 (op1_l rfl (lo_pick_f (v := .bool _) rfl rfl rfl) ?_)
          refine ow1 (op1_l rfl (lo_assign (v := .bool _) rfl) ?_)
          refine ow_nil ?_
          refine seqK_n ?_
          refine cw_cond_f rfl rfl ?_
          refine cw_seq ?_
          refine cw_seq ?_
          refine cw_region ?_
          refine ow1 (op1_l rfl (lo_fieldAddr rfl fl244_1) ?_)
          refine ow1 (op1_l rfl (lo_load1 (i := 0) (v := .int _ _) rfl ag5 rfl rfl) ?_)
          refine ow1 (op1_l rfl (lo_eql rfl rfl) ?_)
          refine ow1 (op1_l rfl (lo_move (v := .bool _) rfl) ?_)
          refine ow1 (op1_gs rfl h11 rfl ?_)
          refine ow1 (op1_gs rfl h11 rfl ?_)
          refine ow1 (op1_gs rfl h11 rfl ?_)
          refine ow1 (op1_l rfl (lo_pick_f (v := .bool _) rfl h11 rfl) ?_)
          refine ow1 (op1_l rfl (lo_assign (v := .bool _) rfl) ?_)
          refine ow_nil ?_
          refine seqK_n ?_
          refine cw_cond_f rfl rfl ?_
          refine cw_region ?_
          refine ow1 (op1_l rfl (lo_fieldAddr rfl fl244_1) ?_)
          refine ow1 (op1_l rfl (lo_load1 (i := 0) (v := .int _ _) rfl ag5 rfl rfl) ?_)
          refine ow1 (op1_l rfl (lo_neq rfl rfl) ?_)
          refine ow1 (op1_l rfl (lo_move (v := .bool _) rfl) ?_)
          refine ow1 (op1_g rfl (by rw [h11] <;> rfl) rfl (lo_fieldAddr rfl fl244_3) ?_)
          refine ow1 (op1_g rfl (by rw [h11] <;> rfl) rfl (lo_load1 (i := 0) (v := str _) rfl ag9 rfl rfl) ?_)
          refine ow1 (op1_g rfl (by rw [h11] <;> rfl) rfl (lo_sneq rfl rfl) ?_)
          refine ow1 (op1_l rfl (lo_pick_t (v := .bool _) rfl (by rw [h11] <;> rfl) rfl) ?_)
          refine ow1 (op1_l rfl (lo_assign (v := .bool _) rfl) ?_)
          refine ow_nil ?_
          refine seqK_n ?_
          refine cw_cond rfl (fun h48 => ?_) (fun h48 => ?_)
          · have h49 := not_t h48
            have p50 := df h49
            refine cw_seq ?_
            refine cw_region ?_
            refine ow1 (op1_l rfl (lo_assign (v := .int _ _) rfl) ?_)
            refine ow_nil ?_
            refine seqK_n ?_
            refine cw_ret ?_
            refine blkK_r ?_
            refine seqK_r ?_
            refine fnK_r (res1 rfl (rv_t (v := .int _ _) rfl)) (.refl _) ?_
            first | (simp [pairErr, *]; done) | (simp [pairErr, *]; omega)
          · have h51 := not_f h48
            have p52 := dt h51
            refine cw_seq ?_
            refine cw_region ?_
            refine ow1 (op1_l rfl (lo_move (v := .bool _) rfl) ?_)
            refine ow1 (op1_l rfl (lo_assign (v := .bool _) rfl) ?_)
            refine ow_nil ?_
            refine seqK_n ?_
            refine cw_cond rfl (fun h53 => ?_) (fun h53 => ?_)
            · refine cw_seq ?_
              refine cw_region ?_
              refine ow1 (op1_l rfl (lo_assign (v := .int _ _) rfl) ?_)
              refine ow_nil ?_
              refine seqK_n ?_
              refine cw_ret ?_
              refine blkK_r ?_
              refine seqK_r ?_
              refine fnK_r (res1 rfl (rv_t (v := .int _ _) rfl)) (.refl _) ?_
              first | (simp [pairErr, *]; done) | (simp [pairErr, *]; omega)
            · refine cw_skip ?_
              refine blkK_n ?_
              refine seqK_n ?_
              refine cw_seq ?_
              refine cw_region ?_
              refine ow1 (op1_l rfl (lo_assign (v := .int _ _) rfl) ?_)
              refine ow_nil ?_
              refine seqK_n ?_
              refine cw_ret ?_
              refine fnK_r (res1 rfl (rv_t (v := .int _ _) rfl)) (.refl _) ?_
              first | (simp [pairErr, *]; done) | (simp [pairErr, *]; omega)

theorem head_Check (H : Hp) (h_a : Option Addr) (h_l h_c : Nat) (h : List Pair) (h_h : SlH pairE 4 H (.slice h_a h_l h_c) h) (hl : h.length ≤ 9223372036854775807) : Pr Tryz.prog 119 #[.slice h_a h_l h_c] H (.int .i64 (headE h)) := by
  refine pr_cw Tryz.func119 rfl Tryz.ntmps119 rfl (fun N => ?_)
  refine cw_seq ?_
  refine cw_region ?_
  refine ow1 (op1_l rfl (lo_assign (v := .int _ _) rfl) ?_)
  refine ow_nil ?_
  refine seqK_n ?_
  refine cw_seq ?_
  refine cw_seq ?_
  refine cw_region ?_
  refine ow1 (op1_l rfl (lo_move (v := .slice _ _ _) rfl) ?_)
  refine ow1 (op1_l rfl (lo_len_slh rfl h_h Tryz.underlying26) ?_)
  refine ow1 (op1_l rfl (lo_gtr rfl rfl) ?_)
  refine ow_nil ?_
  refine seqK_n ?_
  refine cw_cond rfl (fun h1 => ?_) (fun h1 => ?_)
  · have p2 := dt h1
    refine cw_seq ?_
    refine cw_region ?_
    refine ow1 (op1_l rfl (lo_assign (v := .int _ _) rfl) ?_)
    refine ow_nil ?_
    refine seqK_n ?_
    refine cw_ret ?_
    refine seqK_r ?_
    refine fnK_r (res1 rfl (rv_t (v := .int _ _) rfl)) (.refl _) ?_
    simp [headE, *]
  · have p3 := df h1
    refine cw_skip ?_
    refine seqK_n ?_
    refine cw_seq ?_
    refine cw_seq ?_
    refine cw_region ?_
    refine ow1 (op1_l rfl (lo_move (v := .slice _ _ _) rfl) ?_)
    refine ow1 (op1_l rfl (lo_len_slh rfl h_h Tryz.underlying26) ?_)
    refine ow1 (op1_l rfl (lo_move (v := .int _ _) rfl) ?_)
    refine ow_nil ?_
    refine seqK_n ?_
    refine cw_block ?_
    refine cw_loop1 [2, 3, 4, 5, 11, 12, 13, 14, 15, 16, 17, 18, 19, 20, 21, 22, 23, 24] [0] (fun (k : Nat) G => upd (G) 11 (.int .i64 (k : Int))) (fun (k : Nat) G => G) (fun (k : Nat) H' => k ≤ h.length ∧ headGo [] h = headGo (h.take k) (h.drop k)) (fun (k : Nat) => h.length - k) 0 (upd_intro (mask_intro (by first | exact off_refl | (repeat (first | exact off_mask | refine off_upd rfl ?_ | refine off_mask2 rfl ?_)))) rfl) (lmask_intro offl_refl) ?_ ?_
    · exact ⟨Nat.zero_le _, rfl⟩
    · intro k J5 JL5 H5 hp4 hl5
      obtain ⟨hk1, hk2⟩ := hp4
      refine cw_seq ?_
      refine cw_region ?_
      refine ow1 (op1_l rfl (lo_lss rfl rfl) ?_)
      refine ow_nil ?_
      refine seqK_n ?_
      refine cw_seq ?_
      refine cw_cond rfl (fun h6 => ?_) (fun h6 => ?_)
      · have p7 := dt h6
        refine cw_skip ?_
        refine seqK_n ?_
        refine cw_seq ?_
        refine cw_block ?_
        refine cw_seq ?_
        refine cw_region ?_
        refine ow1 (op1_l rfl (lo_move (v := .int _ _) rfl) ?_)
        obtain ⟨c8, hc9⟩ := getE (xs := h) (m := k) (by omega)
        obtain ⟨cs10, hE11, at12⟩ := (h_h.mono ((HLe.refl _).trans hl5) (fun _ _ h => h)).get hc9
        obtain ⟨rfl, c8_w⟩ := hE11
        have c8_w' := c8_w
        simp only [Pair.wf] at c8_w'
        refine ow1 (op1_l rfl (lo_indexAddr rfl rfl (h_h.mono ((HLe.refl _).trans hl5) (fun _ _ h => h)).1 at12 Tryz.underlying26 sz244 (by omega) (by omega)) ?_)
        refine ow1 (op1_l rfl (lo_loadEA rfl ag244 sz244 at12) ?_)
        refine ow1 (op1_alloc 0 rfl zr244 (fun b13 => ?_))
        refine ow1 (op1_l rfl (lo_assign (v := .int _ _) rfl) ?_)
        refine ow1 (op1_storeA (i := 0) (vs := [_, _, _, _]) rfl rfl rfl sz244 rfl rfl rfl ?_)
        refine ow_nil ?_
        refine seqK_n ?_
        refine cw_seq ?_
        refine cw_anyL mixd ?_
        refine vw_q 0 rfl (by kernel_rfl) (by repeat (first | exact lle_l0 | exact LLe.refl _ | exact lle_none | refine lle_up ?_ rfl)) (fun _ _ hh hl => lo_loadA (i := 0) (vs := [_, _, _, _]) rfl ag244 sz244 (hl _ _ rfl) rfl rfl) ?_
        refine vw_q 1 rfl (by kernel_rfl) (by repeat (first | exact lle_l0 | exact LLe.refl _ | exact lle_none | refine lle_up ?_ rfl)) (fun _ _ hh hl => lo_move (v := .slice _ _ _) rfl) ?_
        refine vw_q 2 rfl (by kernel_rfl) (by repeat (first | exact lle_l0 | exact LLe.refl _ | exact lle_none | refine lle_up ?_ rfl)) (fun _ _ hh hl => lo_move (v := .int _ _) rfl) ?_
        refine vw_q 3 rfl (by kernel_rfl) (by repeat (first | exact lle_l0 | exact LLe.refl _ | exact lle_none | refine lle_up ?_ rfl)) (fun _ _ hh hl => lo_slice_slh_hi k rfl rfl Tryz.underlying26 sz244 (by omega) (Nat.le_trans (by omega) (slh_cap (h_h.mono ((HLe.refl _).trans hl5) (fun _ _ h => h))))) ?_
        have := pairErr_r c8 (h.take k)
        refine vw_qc 4 rfl (by kernel_rfl) (by repeat (first | exact lle_l0 | exact LLe.refl _ | exact lle_none | refine lle_up ?_ rfl)) (head_pair _ c8 c8_w (slA h_a h_c 0 4) k h_c (h.take k) (slh_take (q := k) (h_h.mono ((HLe.refl _).trans hl5) (fun _ _ h => h)) (by omega)) (by first | omega | (simp <;> omega))) (en_f cb201 rfl) ?_
        refine vw_q 5 rfl (by kernel_rfl) (by repeat (first | exact lle_l0 | exact LLe.refl _ | exact lle_none | refine lle_up ?_ rfl)) (fun _ _ hh hl => lo_assign (v := .int _ _) rfl) ?_
        refine vw_done (by kernel_rfl) ?_
        refine seqK_n ?_
        refine cw_seq ?_
        refine cw_region ?_
        refine ow1 (op1_l rfl (lo_move (v := .int _ _) rfl) ?_)
        refine ow1 (op1_l rfl (lo_neq rfl rfl) ?_)
        refine ow_nil ?_
        refine seqK_n ?_
        refine cw_cond rfl (fun h14 => ?_) (fun h14 => ?_)
        · have h15 := not_t h14
          have p16 := df h15
          refine cw_seq ?_
          refine cw_region ?_
          refine ow1 (op1_l rfl (lo_move (v := .int _ _) rfl) ?_)
          refine ow1 (op1_l rfl (lo_assign (v := .int _ _) rfl) ?_)
          refine ow_nil ?_
          refine seqK_n ?_
          refine cw_ret ?_
          refine blkK_r ?_
          refine seqK_r ?_
          refine loopK_r ?_
          refine blkK_r ?_
          refine seqK_r ?_
          refine fnK_r (res1 rfl (rv_t (v := .int _ _) rfl)) ((HLe.refl _).trans hl5) ?_
          unfold headE
          rw [if_neg (by omega), hk2, dropE hc9]
          simp only [headGo]
          rw [if_pos (by omega)]
        · have h17 := not_f h14
          have p18 := dt h17
          refine cw_skip ?_
          refine blkK_n ?_
          refine seqK_n ?_
          refine cw_region ?_
          refine ow1 (op1_l rfl (lo_add rfl rfl (rg_i64 (by omega))) ?_)
          refine ow1 (op1_l rfl (lo_move (v := .int _ _) rfl) ?_)
          refine ow_nil ?_
          refine next1 (k + 1) (upd_intro (mask_intro (by first | exact off_refl | (repeat (first | exact off_mask | refine off_upd rfl ?_ | refine off_mask2 rfl ?_)))) rfl) (lmask_intro (by first | exact offl_refl | (repeat (first | exact offl_mask | refine offl_upd rfl ?_ | refine offl_mask2 rfl ?_)))) hl5 ?_ ?_
          · refine ⟨by omega, ?_⟩
            rw [hk2, dropE hc9, takeE hc9]
            simp only [headGo]
            rw [if_neg (by omega)]
          · omega
      · have p19 := df h6
        refine cw_exit ?_
        refine seqK_e ?_
        refine loopK_e ?_
        refine blkK_hit ?_
        refine seqK_n ?_
        refine cw_seq ?_
        refine cw_region ?_
        refine ow1 (op1_l rfl (lo_assign (v := .int _ _) rfl) ?_)
        refine ow_nil ?_
        refine seqK_n ?_
        refine cw_ret ?_
        refine fnK_r (res1 rfl (rv_t (v := .int _ _) rfl)) ((HLe.refl _).trans hl5) ?_
        unfold headE
        rw [if_neg (by omega), hk2, List.drop_of_length_le (by omega)]
        rfl

end Go.SW


set_option linter.unusedVariables false
set_option maxRecDepth 100000
set_option maxHeartbeats 4000000
namespace Go.SW
open Go.Proofs
theorem bd176  (w : World) : (Instr.build 176 #[]).run Tryz.prog w = .ok (.agg #[str [], .int .i64 0]) w := by kernel_rfl
theorem cb109 : Callable Tryz.prog 109 := callable_of Tryz.func109 (by kernel_rfl) (by kernel_rfl)
theorem cb113 : Callable Tryz.prog 113 := callable_of Tryz.func113 (by kernel_rfl) (by kernel_rfl)
theorem cb119 : Callable Tryz.prog 119 := callable_of Tryz.func119 (by kernel_rfl) (by kernel_rfl)

theorem head_Bytes (H : Hp) (h_a : Option Addr) (h_l h_c : Nat) (h : List Pair) (h_h : SlH pairE 4 H (.slice h_a h_l h_c) h) (hl : h.length ≤ 9223372036854775807) : Pr Tryz.prog 110 #[.slice h_a h_l h_c] H (.tuple #[str (headBytes h), .int .i64 (headE h)]) := by
  refine pr_cw Tryz.func110 rfl Tryz.ntmps110 rfl (fun N => ?_)
  refine cw_seq ?_
  refine cw_region ?_
  refine ow1 (op1_l rfl (lo_assign (v := str _) rfl) ?_)
  refine ow1 (op1_l rfl (lo_assign (v := .int _ _) rfl) ?_)
  refine ow_nil ?_
  refine seqK_n ?_
  refine cw_seq ?_
  refine cw_seq ?_
  refine cw_region ?_
  refine ow1 (op1_l rfl (lo_move (v := .slice _ _ _) rfl) ?_)
  refine ow1 (op1_pr (head_Check _ h_a h_l h_c h h_h (by first | omega | (simp <;> omega))) (en_f cb119 rfl) rfl ?_)
  refine ow1 (op1_l rfl (lo_assign (v := .int _ _) rfl) ?_)
  refine ow_nil ?_
  refine seqK_n ?_
  refine cw_seq ?_
  refine cw_region ?_
  refine ow1 (op1_l rfl (lo_move (v := .int _ _) rfl) ?_)
  refine ow1 (op1_l rfl (lo_neq rfl rfl) ?_)
  refine ow_nil ?_
  refine seqK_n ?_
  refine cw_cond rfl (fun h1 => ?_) (fun h1 => ?_)
  · have h2 := not_t h1
    have p3 := df h2
    refine cw_seq ?_
    refine cw_region ?_
    refine ow1 (op1_l rfl (lo_move (v := .int _ _) rfl) ?_)
    refine ow1 (op1_l rfl (lo_assign (v := str _) rfl) ?_)
    refine ow1 (op1_l rfl (lo_assign (v := .int _ _) rfl) ?_)
    refine ow_nil ?_
    refine seqK_n ?_
    refine cw_ret ?_
    refine seqK_r ?_
    refine fnK_r (res2 rfl (rv_t (v := str _) rfl) (rv_t (v := .int _ _) rfl)) (.refl _) ?_
    unfold headBytes
    rw [if_neg (by omega)]
  · have h4 := not_f h1
    have p5 := dt h4
    refine cw_skip ?_
    refine seqK_n ?_
    refine cw_seq ?_
    refine cw_region ?_
    refine ow1 (op1_l rfl (lo_build (v := .agg #[_, _]) rfl (bd176)) ?_)
    refine ow1 (op1_l rfl (lo_move (v := .slice _ _ _) rfl) ?_)
    refine ow1 (op1_l rfl (lo_len_slh rfl h_h Tryz.underlying26) ?_)
    refine ow1 (op1_l rfl (lo_conv_in rfl (by rw [Tryz.underlying3]; rfl) Tryz.underlying25 (rg_u64 (by omega))) ?_)
    refine ow1 (op1_pr (out_Num _ (⟨[], 0⟩ : Out) (h.length : Int) (by omega) 1 (by omega) (by first | omega | (have := hrl (by assumption); omega) | (simp [outNum, outRaw, numB_len, numK] <;> omega) | (have := hrl (by assumption); simp [outNum, outRaw, numB_len, numK] <;> omega))) (en_f cb107 rfl) rfl ?_)
    have nl0 : (⟨[], 0⟩ : Out).s.length = 0 := rfl
    have := outNum_len (⟨[], 0⟩ : Out) (h.length : Int) 1
    refine ow1 (op1_alloc 0 rfl zr176 (fun b6 => ?_))
    refine ow1 (op1_storeA (i := 0) (vs := [_, _]) rfl rfl rfl sz176 rfl rfl rfl ?_)
    refine ow_nil ?_
    refine seqK_n ?_
    refine cw_seq ?_
    refine cw_seq ?_
    refine cw_region ?_
    refine ow1 (op1_l rfl (lo_move (v := .slice _ _ _) rfl) ?_)
    refine ow1 (op1_l rfl (lo_len_slh rfl h_h Tryz.underlying26) ?_)
    refine ow1 (op1_l rfl (lo_move (v := .int _ _) rfl) ?_)
    refine ow_nil ?_
    refine seqK_n ?_
    refine cw_block ?_
    refine cw_loop2 [7, 20, 21, 22, 23, 24, 25, 26, 27, 28, 29, 30, 31, 32, 33, 34, 35, 36, 37, 38, 39, 40, 41, 42, 43, 44, 45, 46, 47, 48, 49, 50, 51, 52, 53, 54] [0, 1] (fun (k : Nat) (o : Out) G => upd (G) 20 (.int .i64 (k : Int))) (fun (k : Nat) (o : Out) G => lupd (G) 0 (some (b6, bx 176 (Out.cells o)))) (fun (k : Nat) (o : Out) H' => k ≤ h.length ∧ h.foldl pairOut (outNum ⟨[], 0⟩ h.length 1) = (h.drop k).foldl pairOut o ∧ o.s.length ≤ 8 + 110 * k) (fun (k : Nat) (o : Out) => h.length - k) 0 (outNum ⟨[], 0⟩ h.length 1) (upd_intro (mask_intro (by first | exact off_refl | (repeat (first | exact off_mask | refine off_upd rfl ?_ | refine off_mask2 rfl ?_)))) rfl) (lupd_intro (lmask_intro offl_refl) rfl) ?_ ?_
    · exact ⟨Nat.zero_le _, rfl, by simp at *; omega⟩
    · intro k o J8 JL8 H8 hp7 hl8
      obtain ⟨hk1, hk2, hk3⟩ := hp7
      have hok := headE_ok (h := h) (by assumption)
      refine cw_seq ?_
      refine cw_region ?_
      refine ow1 (op1_l rfl (lo_lss rfl rfl) ?_)
      refine ow_nil ?_
      refine seqK_n ?_
      refine cw_seq ?_
      refine cw_cond rfl (fun h9 => ?_) (fun h9 => ?_)
      · have p10 := dt h9
        refine cw_skip ?_
        refine seqK_n ?_
        refine cw_seq ?_
        refine cw_block ?_
        refine cw_seq ?_
        refine cw_region ?_
        obtain ⟨c11, hc12⟩ := getE (xs := h) (m := k) (by omega)
        obtain ⟨cs13, hE14, at15⟩ := (h_h.mono ((HLe.refl _).trans hl8) (fun _ _ h => h)).get hc12
        obtain ⟨rfl, c11_w⟩ := hE14
        have c11_w' := c11_w
        simp only [Pair.wf] at c11_w'
        have hpk := hok.2 c11 (List.mem_of_getElem? hc12)
        refine ow1 (op1_l rfl (lo_indexAddr rfl rfl (h_h.mono ((HLe.refl _).trans hl8) (fun _ _ h => h)).1 at15 Tryz.underlying26 sz244 (by omega) (by omega)) ?_)
        refine ow1 (op1_l rfl (lo_loadEA rfl ag244 sz244 at15) ?_)
        refine ow1 (op1_alloc 1 rfl zr244 (fun b16 => ?_))
        refine ow1 (op1_storeA (i := 1) (vs := [_, _, _, _]) rfl rfl rfl sz244 rfl rfl rfl ?_)
        refine ow_nil ?_
        refine seqK_n ?_
        refine cw_seq ?_
        refine cw_anyL mixd ?_
        refine vw_q 0 rfl (by kernel_rfl) (by repeat (first | exact lle_l0 | exact LLe.refl _ | exact lle_none | refine lle_up ?_ rfl)) (fun _ _ hh hl => lo_loadA (i := 0) (vs := [_, _]) rfl ag176 sz176 (hl _ _ rfl) rfl rfl) ?_
        refine vw_q 1 rfl (by kernel_rfl) (by repeat (first | exact lle_l0 | exact LLe.refl _ | exact lle_none | refine lle_up ?_ rfl)) (fun _ _ hh hl => lo_fieldAddr rfl fl244_0) ?_
        refine vw_q 2 rfl (by kernel_rfl) (by repeat (first | exact lle_l0 | exact LLe.refl _ | exact lle_none | refine lle_up ?_ rfl)) (fun _ _ hh hl => lo_load1 (i := 1) (v := str _) rfl ag9 (hl _ _ rfl) rfl) ?_
        have := outText_len o c11.key
        refine vw_qc 3 rfl (by kernel_rfl) (by repeat (first | exact lle_l0 | exact LLe.refl _ | exact lle_none | refine lle_up ?_ rfl)) (out_Text _ o c11.key (by first | omega | (have := hrl (by assumption); omega) | (simp [outNum, outRaw, numB_len, numK] <;> omega) | (have := hrl (by assumption); simp [outNum, outRaw, numB_len, numK] <;> omega))) (en_f cb109 rfl) ?_
        refine vw_q 4 rfl (by kernel_rfl) (by repeat (first | exact lle_l0 | exact LLe.refl _ | exact lle_none | refine lle_up ?_ rfl)) (fun _ _ hh hl => lo_fieldAddr rfl fl244_1) ?_
        refine vw_q 5 rfl (by kernel_rfl) (by repeat (first | exact lle_l0 | exact LLe.refl _ | exact lle_none | refine lle_up ?_ rfl)) (fun _ _ hh hl => lo_load1 (i := 1) (v := .int _ _) rfl ag5 (hl _ _ rfl) rfl) ?_
        refine vw_q 6 rfl (by kernel_rfl) (by repeat (first | exact lle_l0 | exact LLe.refl _ | exact lle_none | refine lle_up ?_ rfl)) (fun _ _ hh hl => lo_conv_in rfl (by rw [Tryz.underlying5]; rfl) Tryz.underlying25 (rg_u64 (by omega))) ?_
        have := outNum_len (outText o c11.key) c11.kind 1
        refine vw_qc 7 rfl (by kernel_rfl) (by repeat (first | exact lle_l0 | exact LLe.refl _ | exact lle_none | refine lle_up ?_ rfl)) (out_Num _ (outText o c11.key) c11.kind (by omega) 1 (by omega) (by first | omega | (have := hrl (by assumption); omega) | (simp [outNum, outRaw, numB_len, numK] <;> omega) | (have := hrl (by assumption); simp [outNum, outRaw, numB_len, numK] <;> omega))) (en_f cb107 rfl) ?_
        refine vw_t 8 rfl (by kernel_rfl) (by kernel_rfl) (op1_storeA (i := 0) (vs := [_, _]) rfl rfl rfl sz176 rfl rfl rfl ?_)
        refine vw_done (by kernel_rfl) ?_
        refine seqK_n ?_
        refine cw_seq ?_
        refine cw_region ?_
        refine ow1 (op1_l rfl (lo_fieldAddr rfl fl244_1) ?_)
        refine ow1 (op1_l rfl (lo_load1 (i := 1) (v := .int _ _) rfl ag5 rfl rfl) ?_)
        refine ow_nil ?_
        refine seqK_n ?_
        refine cw_block ?_
        refine cw_seq ?_
        refine cw_region ?_
        refine ow1 (op1_l rfl (lo_eql rfl rfl) ?_)
        refine ow1 (op1_l rfl (lo_assign (v := .bool _) rfl) ?_)
        refine ow_nil ?_
        refine seqK_n ?_
        refine cw_cond rfl (fun h17 => ?_) (fun h17 => ?_)
        · have p18 := dt h17
          refine cw_region ?_
          refine ow1 (op1_l rfl (lo_loadA (i := 0) (vs := [_, _]) rfl ag176 sz176 rfl rfl rfl) ?_)
          refine ow1 (op1_l rfl (lo_fieldAddr rfl fl244_2) ?_)
          refine ow1 (op1_l rfl (lo_load1 (i := 1) (v := .int _ _) rfl ag2 rfl rfl) ?_)
          have := wr_u64 c11.num
          refine ow1 (op1_l rfl (lo_conv rfl (by rw [Tryz.underlying2]; rfl) Tryz.underlying25) ?_)
          refine ow1 (op1_pr (out_Num _ (outNum (outText o c11.key) c11.kind 1) (IntKind.wrap .u64 c11.num) (by omega) 8 (by omega) (by first | omega | (have := hrl (by assumption); omega) | (simp [outNum, outRaw, numB_len, numK] <;> omega) | (have := hrl (by assumption); simp [outNum, outRaw, numB_len, numK] <;> omega))) (en_f cb107 rfl) rfl ?_)
          have := outNum_len (outNum (outText o c11.key) c11.kind 1) (IntKind.wrap .u64 c11.num) 8
          refine ow1 (op1_storeA (i := 0) (vs := [_, _]) rfl rfl rfl sz176 rfl rfl rfl ?_)
          refine ow_nil ?_
          refine blkK_n ?_
          refine blkK_n ?_
          refine seqK_n ?_
          refine cw_region ?_
          refine ow1 (op1_l rfl (lo_add rfl rfl (rg_i64 (by omega))) ?_)
          refine ow1 (op1_l rfl (lo_move (v := .int _ _) rfl) ?_)
          refine ow_nil ?_
          refine next2 (k + 1) (outNum (outNum (outText o c11.key) c11.kind 1) (IntKind.wrap .u64 c11.num) 8) (upd_intro (mask_intro (by first | exact off_refl | (repeat (first | exact off_mask | refine off_upd rfl ?_ | refine off_mask2 rfl ?_)))) rfl) (lupd_intro (lmask_intro (by first | exact offl_refl | (repeat (first | exact offl_mask | refine offl_upd rfl ?_ | refine offl_mask2 rfl ?_)))) rfl) hl8 ?_ ?_
          · have e : (outNum (outNum (outText o c11.key) c11.kind 1) (IntKind.wrap .u64 c11.num) 8) = pairOut o c11 := by unfold pairOut; first | (rw [if_pos (by omega)]; done) | (rw [if_neg (by omega), if_pos (by omega)]; done) | (rw [if_neg (by omega), if_neg (by omega), if_pos (by omega)]; done) | (rw [if_neg (by omega), if_neg (by omega), if_neg (by omega)]; done)
            rw [e]
            have hlo := pairOut_len (o := o) (hok.2 c11 (List.mem_of_getElem? hc12))
            refine ⟨by omega, ?_, by omega⟩
            rw [hk2, dropE hc12, List.foldl_cons]
          · omega
        · have p19 := df h17
          refine cw_seq ?_
          refine cw_region ?_
          refine ow1 (op1_l rfl (lo_eql rfl rfl) ?_)
          refine ow1 (op1_l rfl (lo_assign (v := .bool _) rfl) ?_)
          refine ow_nil ?_
          refine seqK_n ?_
          refine cw_cond rfl (fun h20 => ?_) (fun h20 => ?_)
          · have p21 := dt h20
            refine cw_region ?_
            refine ow1 (op1_l rfl (lo_loadA (i := 0) (vs := [_, _]) rfl ag176 sz176 rfl rfl rfl) ?_)
            refine ow1 (op1_l rfl (lo_fieldAddr rfl fl244_3) ?_)
            refine ow1 (op1_l rfl (lo_load1 (i := 1) (v := str _) rfl ag9 rfl rfl) ?_)
            refine ow1 (op1_pr (out_Text _ (outNum (outText o c11.key) c11.kind 1) c11.text (by first | omega | (have := hrl (by assumption); omega) | (simp [outNum, outRaw, numB_len, numK] <;> omega) | (have := hrl (by assumption); simp [outNum, outRaw, numB_len, numK] <;> omega))) (en_f cb109 rfl) rfl ?_)
            have := outText_len (outNum (outText o c11.key) c11.kind 1) c11.text
            refine ow1 (op1_storeA (i := 0) (vs := [_, _]) rfl rfl rfl sz176 rfl rfl rfl ?_)
            refine ow_nil ?_
            refine blkK_n ?_
            refine blkK_n ?_
            refine seqK_n ?_
            refine cw_region ?_
            refine ow1 (op1_l rfl (lo_add rfl rfl (rg_i64 (by omega))) ?_)
            refine ow1 (op1_l rfl (lo_move (v := .int _ _) rfl) ?_)
            refine ow_nil ?_
            refine next2 (k + 1) (outText (outNum (outText o c11.key) c11.kind 1) c11.text) (upd_intro (mask_intro (by first | exact off_refl | (repeat (first | exact off_mask | refine off_upd rfl ?_ | refine off_mask2 rfl ?_)))) rfl) (lupd_intro (lmask_intro (by first | exact offl_refl | (repeat (first | exact offl_mask | refine offl_upd rfl ?_ | refine offl_mask2 rfl ?_)))) rfl) hl8 ?_ ?_
            · have e : (outText (outNum (outText o c11.key) c11.kind 1) c11.text) = pairOut o c11 := by unfold pairOut; first | (rw [if_pos (by omega)]; done) | (rw [if_neg (by omega), if_pos (by omega)]; done) | (rw [if_neg (by omega), if_neg (by omega), if_pos (by omega)]; done) | (rw [if_neg (by omega), if_neg (by omega), if_neg (by omega)]; done)
              rw [e]
              have hlo := pairOut_len (o := o) (hok.2 c11 (List.mem_of_getElem? hc12))
              refine ⟨by omega, ?_, by omega⟩
              rw [hk2, dropE hc12, List.foldl_cons]
            · omega
          · have p22 := df h20
            refine cw_seq ?_
            refine cw_region ?_
            refine ow1 (op1_l rfl (lo_eql rfl rfl) ?_)
            refine ow1 (op1_l rfl (lo_assign (v := .bool _) rfl) ?_)
            refine ow_nil ?_
            refine seqK_n ?_
            refine cw_cond rfl (fun h23 => ?_) (fun h23 => ?_)
            · have p24 := dt h23
              refine cw_region ?_
              refine ow1 (op1_l rfl (lo_loadA (i := 0) (vs := [_, _]) rfl ag176 sz176 rfl rfl rfl) ?_)
              refine ow1 (op1_l rfl (lo_fieldAddr rfl fl244_2) ?_)
              refine ow1 (op1_l rfl (lo_load1 (i := 1) (v := .int _ _) rfl ag2 rfl rfl) ?_)
              have := wr_u64 c11.num
              refine ow1 (op1_l rfl (lo_conv rfl (by rw [Tryz.underlying2]; rfl) Tryz.underlying25) ?_)
              refine ow1 (op1_pr (out_Num _ (outNum (outText o c11.key) c11.kind 1) (IntKind.wrap .u64 c11.num) (by omega) 1 (by omega) (by first | omega | (have := hrl (by assumption); omega) | (simp [outNum, outRaw, numB_len, numK] <;> omega) | (have := hrl (by assumption); simp [outNum, outRaw, numB_len, numK] <;> omega))) (en_f cb107 rfl) rfl ?_)
              have := outNum_len (outNum (outText o c11.key) c11.kind 1) (IntKind.wrap .u64 c11.num) 1
              refine ow1 (op1_storeA (i := 0) (vs := [_, _]) rfl rfl rfl sz176 rfl rfl rfl ?_)
              refine ow_nil ?_
              refine blkK_n ?_
              refine blkK_n ?_
              refine seqK_n ?_
              refine cw_region ?_
              refine ow1 (op1_l rfl (lo_add rfl rfl (rg_i64 (by omega))) ?_)
              refine ow1 (op1_l rfl (lo_move (v := .int _ _) rfl) ?_)
              refine ow_nil ?_
              refine next2 (k + 1) (outNum (outNum (outText o c11.key) c11.kind 1) (IntKind.wrap .u64 c11.num) 1) (upd_intro (mask_intro (by first | exact off_refl | (repeat (first | exact off_mask | refine off_upd rfl ?_ | refine off_mask2 rfl ?_)))) rfl) (lupd_intro (lmask_intro (by first | exact offl_refl | (repeat (first | exact offl_mask | refine offl_upd rfl ?_ | refine offl_mask2 rfl ?_)))) rfl) hl8 ?_ ?_
              · have e : (outNum (outNum (outText o c11.key) c11.kind 1) (IntKind.wrap .u64 c11.num) 1) = pairOut o c11 := by unfold pairOut; first | (rw [if_pos (by omega)]; done) | (rw [if_neg (by omega), if_pos (by omega)]; done) | (rw [if_neg (by omega), if_neg (by omega), if_pos (by omega)]; done) | (rw [if_neg (by omega), if_neg (by omega), if_neg (by omega)]; done)
                rw [e]
                have hlo := pairOut_len (o := o) (hok.2 c11 (List.mem_of_getElem? hc12))
                refine ⟨by omega, ?_, by omega⟩
                rw [hk2, dropE hc12, List.foldl_cons]
              · omega
            · have p25 := df h23
              refine cw_skip ?_
              refine blkK_n ?_
              refine blkK_n ?_
              refine seqK_n ?_
              refine cw_region ?_
              refine ow1 (op1_l rfl (lo_add rfl rfl (rg_i64 (by omega))) ?_)
              refine ow1 (op1_l rfl (lo_move (v := .int _ _) rfl) ?_)
              refine ow_nil ?_
              refine next2 (k + 1) (outNum (outText o c11.key) c11.kind 1) (upd_intro (mask_intro (by first | exact off_refl | (repeat (first | exact off_mask | refine off_upd rfl ?_ | refine off_mask2 rfl ?_)))) rfl) (lupd_intro (lmask_intro (by first | exact offl_refl | (repeat (first | exact offl_mask | refine offl_upd rfl ?_ | refine offl_mask2 rfl ?_)))) rfl) hl8 ?_ ?_
              · have e : (outNum (outText o c11.key) c11.kind 1) = pairOut o c11 := by unfold pairOut; first | (rw [if_pos (by omega)]; done) | (rw [if_neg (by omega), if_pos (by omega)]; done) | (rw [if_neg (by omega), if_neg (by omega), if_pos (by omega)]; done) | (rw [if_neg (by omega), if_neg (by omega), if_neg (by omega)]; done)
                rw [e]
                have hlo := pairOut_len (o := o) (hok.2 c11 (List.mem_of_getElem? hc12))
                refine ⟨by omega, ?_, by omega⟩
                rw [hk2, dropE hc12, List.foldl_cons]
              · omega
      · have p26 := df h9
        refine cw_exit ?_
        refine seqK_e ?_
        refine loopK_e ?_
        refine blkK_hit ?_
        refine seqK_n ?_
        refine cw_seq ?_
        refine cw_region ?_
        refine ow1 (op1_l rfl (lo_loadA (i := 0) (vs := [_, _]) rfl ag176 sz176 rfl rfl rfl) ?_)
        refine ow1 (op1_pr (out_String _ o) (en_f cb113 rfl) rfl ?_)
        refine ow1 (op1_l rfl (lo_assign (v := str _) rfl) ?_)
        refine ow1 (op1_l rfl (lo_assign (v := .int _ _) rfl) ?_)
        refine ow_nil ?_
        refine seqK_n ?_
        refine cw_ret ?_
        refine fnK_r (res2 rfl (rv_t (v := str _) rfl) (rv_t (v := .int _ _) rfl)) ((HLe.refl _).trans hl8) ?_
        unfold headBytes
        rw [if_pos (by assumption)]
        rw [List.drop_of_length_le (by omega), List.foldl_nil] at hk2
        rw [show headOut h = o from hk2]
        have e0 : headE h = 0 := by assumption
        rw [e0]

end Go.SW


set_option linter.unusedVariables false
set_option maxRecDepth 100000
set_option maxHeartbeats 4000000
namespace Go.SW
open Go.Proofs
theorem ag25 : Ag Tryz.prog 25 false := fun w => by kernel_rfl
theorem ag26 : Ag Tryz.prog 26 false := fun w => by kernel_rfl
theorem ag28 : Ag Tryz.prog 28 true := fun w => by kernel_rfl
theorem ag4 : Ag Tryz.prog 4 false := fun w => by kernel_rfl
theorem cb202 : Callable Tryz.prog 202 := callable_of Tryz.func202 (by kernel_rfl) (by kernel_rfl)
theorem fl28_0 : Fld Tryz.prog 28 0 0 := fun b o w => by kernel_rfl
theorem fl28_1 : Fld Tryz.prog 28 1 1 := fun b o w => by kernel_rfl
theorem fl28_2 : Fld Tryz.prog 28 2 2 := fun b o w => by kernel_rfl
theorem fl28_3 : Fld Tryz.prog 28 3 3 := fun b o w => by kernel_rfl
theorem fl28_4 : Fld Tryz.prog 28 4 4 := fun b o w => by kernel_rfl
theorem fl28_5 : Fld Tryz.prog 28 5 5 := fun b o w => by kernel_rfl
theorem fl28_6 : Fld Tryz.prog 28 6 6 := fun b o w => by kernel_rfl
theorem sz28 : Sz Tryz.prog 28 7 := fun w => by kernel_rfl
end Go.SW


set_option linter.unusedVariables false
set_option maxRecDepth 100000
set_option maxHeartbeats 4000000
namespace Go.SW
open Go.Proofs

end Go.SW


set_option linter.unusedVariables false
set_option maxRecDepth 100000
set_option maxHeartbeats 4000000
namespace Go.SW
open Go.Proofs
theorem zx9 : ∃ z, ∀ w, (zeroValue 9).run Tryz.prog w = .ok z w := ⟨str [], fun w => by kernel_rfl⟩

end Go.SW


set_option linter.unusedVariables false
set_option maxRecDepth 100000
set_option maxHeartbeats 4000000
namespace Go.SW
open Go.Proofs
theorem cb110 : Callable Tryz.prog 110 := callable_of Tryz.func110 (by kernel_rfl) (by kernel_rfl)
end Go.SW


set_option linter.unusedVariables false
set_option maxRecDepth 100000
set_option maxHeartbeats 4000000
namespace Go.SW
open Go.Proofs
theorem cb95 : Callable Tryz.prog 95 := callable_of Tryz.func95 (by kernel_rfl) (by kernel_rfl)

end Go.SW


set_option linter.unusedVariables false
set_option maxRecDepth 100000
set_option maxHeartbeats 4000000
namespace Go.SW
open Go.Proofs

end Go.SW


set_option linter.unusedVariables false
set_option maxRecDepth 100000
set_option maxHeartbeats 4000000
namespace Go.SW
open Go.Proofs
theorem cb222 : Callable Tryz.prog 222 := callable_of Tryz.func222 (by kernel_rfl) (by kernel_rfl)
theorem cb243 : Callable Tryz.prog 243 := callable_of Tryz.func243 (by kernel_rfl) (by kernel_rfl)
theorem l01_awake (H : Hp)  : Pr Tryz.prog 243 #[] H (.bool true) := by
  refine pr_cw Tryz.func243 rfl Tryz.ntmps243 rfl (fun N => ?_)
  refine cw_seq ?_
  refine cw_region ?_
  refine ow1 (op1_l rfl (lo_assign (v := .bool _) rfl) ?_)
  refine ow_nil ?_
  refine seqK_n ?_
  refine cw_seq ?_
  refine cw_region ?_
  refine ow1 (op1_l rfl (lo_build (v := .agg #[_, _]) rfl (bd176)) ?_)
  refine ow1 (op1_pr (out_Num _ (⟨[], 0⟩ : Out) 258 (by omega) 2 (by omega) (by first | omega | (have := hrl (by assumption); omega) | (simp [outNum, outRaw, numB_len, numK] <;> omega) | (have := hrl (by assumption); simp [outNum, outRaw, numB_len, numK] <;> omega))) (en_f cb107 rfl) rfl ?_)
  have nl0 : (⟨[], 0⟩ : Out).s.length = 0 := rfl
  have := outNum_len (⟨[], 0⟩ : Out) 258 2
  refine ow1 (op1_pr (out_String _ (outNum (⟨[], 0⟩ : Out) 258 2)) (en_f cb113 rfl) rfl ?_)
  refine ow1 (op1_l rfl (lo_seql rfl rfl) ?_)
  refine ow1 (op1_l rfl (lo_move (v := .bool _) rfl) ?_)
  refine ow1 (op1_g rfl (by decide +kernel) rfl (lo_build (v := .agg #[_, _]) rfl (bd176)) ?_)
  refine ow1 (op1_prg rfl (by decide +kernel) (out_Text _ (⟨[], 0⟩ : Out) [97, 98] (by first | omega | (have := hrl (by assumption); omega) | (simp [outNum, outRaw, numB_len, numK] <;> omega) | (have := hrl (by assumption); simp [outNum, outRaw, numB_len, numK] <;> omega))) (en_f cb109 rfl) rfl ?_)
  have nl0 : (⟨[], 0⟩ : Out).s.length = 0 := rfl
  have := outText_len (⟨[], 0⟩ : Out) [97, 98]
  refine ow1 (op1_prg rfl (by decide +kernel) (out_String _ (outText (⟨[], 0⟩ : Out) [97, 98])) (en_f cb113 rfl) rfl ?_)
  refine ow1 (op1_g rfl (by decide +kernel) rfl (lo_seql rfl rfl) ?_)
  refine ow1 (op1_l rfl (lo_pick_t (v := .bool _) rfl (by decide +kernel) rfl) ?_)
  refine ow1 (op1_l rfl (lo_move (v := .bool _) rfl) ?_)
  refine ow1 (op1_png 0 rfl (by decide +kernel) (octet_New _ [1, 2]) (en_f cb95 rfl) rfl ?_)
  rintro _ _ b3 _ ⟨rfl, rfl, rfl⟩ _
  refine ow1 (op1_pmg 0 rfl (by decide +kernel) rfl (in_Num _ b3 (⟨[1, 2], 0⟩) 2 (by omega)) (en_f cb154 rfl) rfl ?_)
  rintro _ _ _ ⟨rfl, rfl, rfl⟩ _
  have := inNum_r (⟨[1, 2], 0⟩) 2
  refine ow1 (op1_g rfl (by decide +kernel) rfl (lo_eql rfl rfl) ?_)
  refine ow1 (op1_l rfl (lo_pick_t (v := .bool _) rfl (by decide +kernel) rfl) ?_)
  refine ow1 (op1_l rfl (lo_assign (v := .bool _) rfl) ?_)
  refine ow_nil ?_
  refine seqK_n ?_
  refine cw_ret ?_
  refine fnK_r (res1 rfl (rv_t (v := .bool _) rfl)) (.refl _) ?_
  exact congrArg Value.bool (by decide +kernel)

theorem l01_Awake (H : Hp)  : Pr Tryz.prog 222 #[] H (.bool true) := by
  refine pr_cw Tryz.func222 rfl Tryz.ntmps222 rfl (fun N => ?_)
  refine cw_seq ?_
  refine cw_region ?_
  refine ow1 (op1_l rfl (lo_assign (v := .bool _) rfl) ?_)
  refine ow_nil ?_
  refine seqK_n ?_
  refine cw_seq ?_
  refine cw_region ?_
  refine ow1 (op1_pr (l01_awake _ ) (en_f cb243 rfl) rfl ?_)
  refine ow1 (op1_l rfl (lo_assign (v := .bool _) rfl) ?_)
  refine ow_nil ?_
  refine seqK_n ?_
  refine cw_ret ?_
  refine fnK_r (res1 rfl (rv_t (v := .bool _) rfl)) (.refl _) ?_
  rfl

end Go.SW


set_option linter.unusedVariables false
set_option maxRecDepth 100000
set_option maxHeartbeats 4000000
namespace Go.SW
open Go.Proofs

end Go.SW


set_option linter.unusedVariables false
set_option maxRecDepth 100000
set_option maxHeartbeats 4000000
namespace Go.SW
open Go.Proofs
theorem cb185 : Callable Tryz.prog 185 := callable_of Tryz.func185 (by kernel_rfl) (by kernel_rfl)
theorem cb223 : Callable Tryz.prog 223 := callable_of Tryz.func223 (by kernel_rfl) (by kernel_rfl)
theorem cb244 : Callable Tryz.prog 244 := callable_of Tryz.func244 (by kernel_rfl) (by kernel_rfl)
theorem cb257 : Callable Tryz.prog 257 := callable_of Tryz.func257 (by kernel_rfl) (by kernel_rfl)
theorem cb82 : Callable Tryz.prog 82 := callable_of Tryz.func82 (by kernel_rfl) (by kernel_rfl)

theorem words_Matches (H : Hp) (pattern : Bs) (key : Bs) (hML : GInt H 2) (hp : pattern.length < 4294967281) (hk : key.length < 4294967281) : Pr Tryz.prog 257 #[str pattern, str key] H (.bool (mt (wordsOf pattern) (wordsOf key))) := by
  refine pr_cw Tryz.func257 rfl Tryz.ntmps257 rfl (fun N => ?_)
  refine cw_seq ?_
  refine cw_region ?_
  refine ow1 (op1_l rfl (lo_assign (v := .bool _) rfl) ?_)
  refine ow_nil ?_
  refine seqK_n ?_
  refine cw_seq ?_
  refine cw_region ?_
  refine ow1 (op1_l rfl (lo_move (v := str _) rfl) ?_)
  refine ow1 (op1_ph (words_Split _ pattern hML (by omega)) (en_f cb255 rfl) rfl ?_)
  rintro _ H5 ⟨a1, c2, rfl, hs3⟩ hl4
  refine ow1 (op1_l rfl (lo_move (v := str _) rfl) ?_)
  refine ow1 (op1_ph (words_Split _ key (hML.mono ((HLe.refl _).trans hl4)) (by omega)) (en_f cb255 rfl) rfl ?_)
  rintro _ H10 ⟨a6, c7, rfl, hs8⟩ hl9
  refine ow1 (op1_l rfl (lo_assign (v := .slice _ _ _) rfl) ?_)
  refine ow1 (op1_l rfl (lo_assign (v := .slice _ _ _) rfl) ?_)
  refine ow_nil ?_
  refine seqK_n ?_
  refine cw_seq ?_
  refine cw_region ?_
  refine ow1 (op1_l rfl (lo_assign (v := .int _ _) rfl) ?_)
  refine ow1 (op1_l rfl (lo_assign (v := .int _ _) rfl) ?_)
  refine ow_nil ?_
  refine seqK_n ?_
  refine cw_seq ?_
  refine cw_region ?_
  refine ow1 (op1_l rfl (lo_assign (v := .int _ _) rfl) ?_)
  refine ow1 (op1_l rfl (lo_assign (v := .int _ _) rfl) ?_)
  refine ow_nil ?_
  refine seqK_n ?_
  refine cw_seq ?_
  refine cw_block ?_
  refine cw_loop4 [4, 7, 8, 9, 10, 15, 16, 17, 18, 19, 20, 21, 22, 23, 24, 25, 26, 27, 28, 29, 30, 31, 32, 33, 34, 35, 36, 37, 38, 39, 40, 41, 42, 43, 44, 45, 46, 47, 48, 49, 50, 51, 52, 53, 54, 55, 56, 57, 58, 59, 60, 61, 62, 63, 64, 65, 66, 67, 68] [] (fun (i : Nat) (j : Nat) (b : Int) (f : Nat) G => upd (upd (upd (upd (G) 7 (.int .i64 (i : Int))) 8 (.int .i64 (j : Int))) 9 (.int .i64 b)) 10 (.int .i64 (f : Int))) (fun (i : Nat) (j : Nat) (b : Int) (f : Nat) G => G) (fun (i : Nat) (j : Nat) (b : Int) (f : Nat) H' => MI (wordsOf pattern) (wordsOf key) i j b f) (fun (i : Nat) (j : Nat) (b : Int) (f : Nat) => mmu (wordsOf pattern) (wordsOf key) j b f) 0 0 (-1) 0 (upd_intro (upd_intro (upd_intro (upd_intro (mask_intro (by first | exact off_refl | (repeat (first | exact off_mask | refine off_upd rfl ?_ | refine off_mask2 rfl ?_)))) rfl) rfl) rfl) rfl) (lmask_intro offl_refl) ?_ ?_
  · exact MI.start _ _
  · intro i j b f J12 JL12 H12 hp11 hl12
    have hmi := hp11
    have hwp := words_le pattern
    have hwk := words_le key
    have := hmi.hi
    have := hmi.hj
    have := hmi.hf
    have := hmi.hb
    have := hmi.hbi
    refine cw_seq ?_
    refine cw_seq ?_
    refine cw_region ?_
    refine ow1 (op1_l rfl (lo_move (v := .int _ _) rfl) ?_)
    refine ow1 (op1_l rfl (lo_move (v := .slice _ _ _) rfl) ?_)
    refine ow1 (op1_l rfl (lo_len_slh rfl (hs8.mono ((HLe.refl _).trans hl12) (fun _ _ h => h)) Tryz.underlying245) ?_)
    refine ow1 (op1_l rfl (lo_lss rfl rfl) ?_)
    refine ow_nil ?_
    refine seqK_n ?_
    refine cw_cond rfl (fun h13 => ?_) (fun h13 => ?_)
    · have p14 := dt h13
      refine cw_skip ?_
      refine seqK_n ?_
      refine cw_block ?_
      refine cw_block ?_
      refine cw_seq ?_
      refine cw_region ?_
      refine ow1 (op1_l rfl (lo_move (v := .int _ _) rfl) ?_)
      refine ow1 (op1_l rfl (lo_move (v := .slice _ _ _) rfl) ?_)
      refine ow1 (op1_l rfl (lo_len_slh rfl (hs3.mono (((HLe.refl _).trans hl9).trans hl12) (fun _ _ h => h)) Tryz.underlying245) ?_)
      refine ow1 (op1_l rfl (lo_lss rfl rfl) ?_)
      refine ow1 (op1_l rfl (lo_move (v := .bool _) rfl) ?_)
      refine ow_sp (j := 4) rfl (fun h15 => ?_) (fun h15 => ?_)
      · have p16 := dt h15
        refine ow1 (op1_g rfl h15 rfl (lo_move (v := .slice _ _ _) rfl) ?_)
        refine ow1 (op1_g rfl h15 rfl (lo_move (v := .int _ _) rfl) ?_)
        obtain ⟨c17, hc18⟩ := getE (xs := wordsOf pattern) (m := i) (by omega)
        obtain ⟨cs19, hE20, at21⟩ := (hs3.mono (((HLe.refl _).trans hl9).trans hl12) (fun _ _ h => h)).get hc18
        obtain ⟨rfl, c17_w⟩ := hE20
        have c17_w : c17.length ≤ 9223372036854775807 := c17_w
        refine ow1 (op1_g rfl h15 rfl (lo_indexAddr rfl rfl (hs3.mono (((HLe.refl _).trans hl9).trans hl12) (fun _ _ h => h)).1 at21 Tryz.underlying245 sz9 (by omega) (by omega)) ?_)
        refine ow1 (op1_g rfl h15 rfl (lo_loadE1 rfl ag9 at21) ?_)
        refine ow1 (op1_g rfl h15 rfl (lo_seql rfl rfl) ?_)
        refine ow1 (op1_l rfl (lo_pick_t (v := .bool _) rfl h15 rfl) ?_)
        refine ow1 (op1_l rfl (lo_assign (v := .bool _) rfl) ?_)
        refine ow_nil ?_
        refine seqK_n ?_
        refine cw_cond rfl (fun h22 => ?_) (fun h22 => ?_)
        · have p23 := dt h22
          refine cw_seq ?_
          refine cw_region ?_
          refine ow1 (op1_l rfl (lo_move (v := .int _ _) rfl) ?_)
          refine ow1 (op1_l rfl (lo_add rfl rfl (rg_i64 (by omega))) ?_)
          refine ow1 (op1_l rfl (lo_assign (v := .int _ _) rfl) ?_)
          refine ow_nil ?_
          refine seqK_n ?_
          refine cw_region ?_
          refine ow1 (op1_l rfl (lo_move (v := .int _ _) rfl) ?_)
          refine ow1 (op1_l rfl (lo_move (v := .int _ _) rfl) ?_)
          refine ow1 (op1_l rfl (lo_assign (v := .int _ _) rfl) ?_)
          refine ow1 (op1_l rfl (lo_assign (v := .int _ _) rfl) ?_)
          refine ow_nil ?_
          refine blkK_n ?_
          refine blkK_n ?_
          obtain ⟨c24, hc25⟩ := getE (xs := wordsOf key) (m := j) (by omega)
          refine next4 (i + 1) j ((i : Int) + 1) j (upd_intro (upd_intro (upd_intro (upd_intro (mask_intro (by first | exact off_refl | (repeat (first | exact off_mask | refine off_upd rfl ?_ | refine off_mask2 rfl ?_)))) (congrArg (Value.int .i64) (by omega))) rfl) rfl) rfl) (lmask_intro (by first | exact offl_refl | (repeat (first | exact offl_mask | refine offl_upd rfl ?_ | refine offl_mask2 rfl ?_)))) hl12 ?_ ?_
          · exact MI.hash hmi (by rw [hc18]; simp [*])
          · exact mmu_hash hmi (by omega)
        · have p26 := df h22
          refine cw_seq ?_
          refine cw_anyL mixd ?_
          refine vw_q 0 rfl (by kernel_rfl) (by repeat (first | exact lle_l0 | exact LLe.refl _ | exact lle_none | refine lle_up ?_ rfl)) (fun _ _ hh hl => lo_move (v := .int _ _) rfl) ?_
          refine vw_q 1 rfl (by kernel_rfl) (by repeat (first | exact lle_l0 | exact LLe.refl _ | exact lle_none | refine lle_up ?_ rfl)) (fun _ _ hh hl => lo_move (v := .slice _ _ _) rfl) ?_
          refine vw_q 2 rfl (by kernel_rfl) (by repeat (first | exact lle_l0 | exact LLe.refl _ | exact lle_none | refine lle_up ?_ rfl)) (fun _ _ hh hl => lo_len_slh rfl (hs3.mono ((((HLe.refl _).trans hl9).trans hl12).trans hh) (fun _ _ h => h)) Tryz.underlying245) ?_
          refine vw_q 3 rfl (by kernel_rfl) (by repeat (first | exact lle_l0 | exact LLe.refl _ | exact lle_none | refine lle_up ?_ rfl)) (fun _ _ hh hl => lo_lss rfl rfl) ?_
          refine vw_q 4 rfl (by kernel_rfl) (by repeat (first | exact lle_l0 | exact LLe.refl _ | exact lle_none | refine lle_up ?_ rfl)) (fun _ _ hh hl => lo_move (v := .bool _) rfl) ?_
          refine vw_qg 5 rfl (by kernel_rfl) (by repeat (first | exact lle_l0 | exact LLe.refl _ | exact lle_none | refine lle_up ?_ rfl)) rfl h15 (fun _ _ hh hl => lo_move (v := .slice _ _ _) rfl) ?_
          refine vw_qg 6 rfl (by kernel_rfl) (by repeat (first | exact lle_l0 | exact LLe.refl _ | exact lle_none | refine lle_up ?_ rfl)) rfl h15 (fun _ _ hh hl => lo_move (v := .int _ _) rfl) ?_
          refine vw_qg 7 rfl (by kernel_rfl) (by repeat (first | exact lle_l0 | exact LLe.refl _ | exact lle_none | refine lle_up ?_ rfl)) rfl h15 (fun _ _ hh hl => lo_indexAddr rfl rfl (hs3.mono ((((HLe.refl _).trans hl9).trans hl12).trans hh) (fun _ _ h => h)).1 (at21.mono hh) Tryz.underlying245 sz9 (by omega) (by omega)) ?_
          refine vw_qg 8 rfl (by kernel_rfl) (by repeat (first | exact lle_l0 | exact LLe.refl _ | exact lle_none | refine lle_up ?_ rfl)) rfl h15 (fun _ _ hh hl => lo_loadE1 rfl ag9 (at21.mono hh)) ?_
          refine vw_qg 9 rfl (by kernel_rfl) (by repeat (first | exact lle_l0 | exact LLe.refl _ | exact lle_none | refine lle_up ?_ rfl)) rfl h15 (fun _ _ hh hl => lo_seql rfl rfl) ?_
          refine vw_qg 10 rfl (by kernel_rfl) (by repeat (first | exact lle_l0 | exact LLe.refl _ | exact lle_none | refine lle_up ?_ rfl)) rfl h15 (fun _ _ hh hl => lo_move (v := .bool _) rfl) ?_
          refine vw_sp (j := 10) rfl (fun h27 => ?_) (fun h27 => ?_)
          · have p28 := dt h27
            refine vw_qgs 11 rfl (by kernel_rfl) (by repeat (first | exact lle_l0 | exact LLe.refl _ | exact lle_none | refine lle_up ?_ rfl)) rfl h27 ?_
            refine vw_qgs 12 rfl (by kernel_rfl) (by repeat (first | exact lle_l0 | exact LLe.refl _ | exact lle_none | refine lle_up ?_ rfl)) rfl h27 ?_
            refine vw_qgs 13 rfl (by kernel_rfl) (by repeat (first | exact lle_l0 | exact LLe.refl _ | exact lle_none | refine lle_up ?_ rfl)) rfl h27 ?_
            refine vw_qgs 14 rfl (by kernel_rfl) (by repeat (first | exact lle_l0 | exact LLe.refl _ | exact lle_none | refine lle_up ?_ rfl)) rfl h27 ?_
            refine vw_qgs 15 rfl (by kernel_rfl) (by repeat (first | exact lle_l0 | exact LLe.refl _ | exact lle_none | refine lle_up ?_ rfl)) rfl h27 ?_
            refine vw_qgs 16 rfl (by kernel_rfl) (by repeat (first | exact lle_l0 | exact LLe.refl _ | exact lle_none | refine lle_up ?_ rfl)) rfl h27 ?_
            refine vw_qgs 17 rfl (by kernel_rfl) (by repeat (first | exact lle_l0 | exact LLe.refl _ | exact lle_none | refine lle_up ?_ rfl)) rfl h27 ?_
            refine vw_qgs 18 rfl (by kernel_rfl) (by repeat (first | exact lle_l0 | exact LLe.refl _ | exact lle_none | refine lle_up ?_ rfl)) rfl h27 ?_
            refine vw_qgs 19 rfl (by kernel_rfl) (by repeat (first | exact lle_l0 | exact LLe.refl _ | exact lle_none | refine lle_up ?_ rfl)) rfl h27 ?_
            refine vw_qg 20 rfl (by kernel_rfl) (by repeat (first | exact lle_l0 | exact LLe.refl _ | exact lle_none | refine lle_up ?_ rfl)) rfl h15 (fun _ _ hh hl => lo_pick_t (v := .bool _) rfl h27 rfl) ?_
            refine vw_q 21 rfl (by kernel_rfl) (by repeat (first | exact lle_l0 | exact LLe.refl _ | exact lle_none | refine lle_up ?_ rfl)) (fun _ _ hh hl => lo_pick_t (v := .bool _) rfl h15 rfl) ?_
            refine vw_q 22 rfl (by kernel_rfl) (by repeat (first | exact lle_l0 | exact LLe.refl _ | exact lle_none | refine lle_up ?_ rfl)) (fun _ _ hh hl => lo_assign (v := .bool _) rfl) ?_
            refine vw_done (by kernel_rfl) ?_
            refine seqK_n ?_
            refine cw_cond_t rfl rfl ?_
            refine cw_region ?_
            refine ow1 (op1_l rfl (lo_move (v := .int _ _) rfl) ?_)
            refine ow1 (op1_l rfl (lo_add rfl rfl (rg_i64 (by omega))) ?_)
            refine ow1 (op1_l rfl (lo_move (v := .int _ _) rfl) ?_)
            refine ow1 (op1_l rfl (lo_add rfl rfl (rg_i64 (by omega))) ?_)
            refine ow1 (op1_l rfl (lo_assign (v := .int _ _) rfl) ?_)
            refine ow1 (op1_l rfl (lo_assign (v := .int _ _) rfl) ?_)
            refine ow_nil ?_
            refine blkK_n ?_
            refine blkK_n ?_
            obtain ⟨c29, hc30⟩ := getE (xs := wordsOf key) (m := j) (by omega)
            refine next4 (i + 1) (j + 1) b f (upd_intro (upd_intro (upd_intro (upd_intro (mask_intro (by first | exact off_refl | (repeat (first | exact off_mask | refine off_upd rfl ?_ | refine off_mask2 rfl ?_)))) (congrArg (Value.int .i64) (by omega))) rfl) rfl) rfl) (lmask_intro (by first | exact offl_refl | (repeat (first | exact offl_mask | refine offl_upd rfl ?_ | refine offl_mask2 rfl ?_)))) hl12 ?_ ?_
            · exact MI.step hmi hc18 hc30 (by assumption) (by first | exact .inl (by assumption) | exact .inr (by assumption))
            · exact mmu_step (by omega)
          · have p31 := df h27
            refine vw_qg 11 rfl (by kernel_rfl) (by repeat (first | exact lle_l0 | exact LLe.refl _ | exact lle_none | refine lle_up ?_ rfl)) rfl h27 (fun _ _ hh hl => lo_move (v := .slice _ _ _) rfl) ?_
            refine vw_qg 12 rfl (by kernel_rfl) (by repeat (first | exact lle_l0 | exact LLe.refl _ | exact lle_none | refine lle_up ?_ rfl)) rfl h27 (fun _ _ hh hl => lo_move (v := .int _ _) rfl) ?_
            refine vw_qg 13 rfl (by kernel_rfl) (by repeat (first | exact lle_l0 | exact LLe.refl _ | exact lle_none | refine lle_up ?_ rfl)) rfl h27 (fun _ _ hh hl => lo_indexAddr rfl rfl (hs3.mono ((((HLe.refl _).trans hl9).trans hl12).trans hh) (fun _ _ h => h)).1 (at21.mono hh) Tryz.underlying245 sz9 (by omega) (by omega)) ?_
            refine vw_qg 14 rfl (by kernel_rfl) (by repeat (first | exact lle_l0 | exact LLe.refl _ | exact lle_none | refine lle_up ?_ rfl)) rfl h27 (fun _ _ hh hl => lo_loadE1 rfl ag9 (at21.mono hh)) ?_
            refine vw_qg 15 rfl (by kernel_rfl) (by repeat (first | exact lle_l0 | exact LLe.refl _ | exact lle_none | refine lle_up ?_ rfl)) rfl h27 (fun _ _ hh hl => lo_move (v := .slice _ _ _) rfl) ?_
            refine vw_qg 16 rfl (by kernel_rfl) (by repeat (first | exact lle_l0 | exact LLe.refl _ | exact lle_none | refine lle_up ?_ rfl)) rfl h27 (fun _ _ hh hl => lo_move (v := .int _ _) rfl) ?_
            obtain ⟨c32, hc33⟩ := getE (xs := wordsOf key) (m := j) (by omega)
            obtain ⟨cs34, hE35, at36⟩ := (hs8.mono ((HLe.refl _).trans hl12) (fun _ _ h => h)).get hc33
            obtain ⟨rfl, c32_w⟩ := hE35
            have c32_w : c32.length ≤ 9223372036854775807 := c32_w
            refine vw_qg 17 rfl (by kernel_rfl) (by repeat (first | exact lle_l0 | exact LLe.refl _ | exact lle_none | refine lle_up ?_ rfl)) rfl h27 (fun _ _ hh hl => lo_indexAddr rfl rfl (hs8.mono (((HLe.refl _).trans hl12).trans hh) (fun _ _ h => h)).1 (at36.mono hh) Tryz.underlying245 sz9 (by omega) (by omega)) ?_
            refine vw_qg 18 rfl (by kernel_rfl) (by repeat (first | exact lle_l0 | exact LLe.refl _ | exact lle_none | refine lle_up ?_ rfl)) rfl h27 (fun _ _ hh hl => lo_loadE1 rfl ag9 (at36.mono hh)) ?_
            refine vw_qg 19 rfl (by kernel_rfl) (by repeat (first | exact lle_l0 | exact LLe.refl _ | exact lle_none | refine lle_up ?_ rfl)) rfl h27 (fun _ _ hh hl => lo_seql rfl rfl) ?_
            refine vw_qg 20 rfl (by kernel_rfl) (by repeat (first | exact lle_l0 | exact LLe.refl _ | exact lle_none | refine lle_up ?_ rfl)) rfl h15 (fun _ _ hh hl => lo_pick_f (v := .bool _) rfl h27 rfl) ?_
            refine vw_q 21 rfl (by kernel_rfl) (by repeat (first | exact lle_l0 | exact LLe.refl _ | exact lle_none | refine lle_up ?_ rfl)) (fun _ _ hh hl => lo_pick_t (v := .bool _) rfl h15 rfl) ?_
            refine vw_q 22 rfl (by kernel_rfl) (by repeat (first | exact lle_l0 | exact LLe.refl _ | exact lle_none | refine lle_up ?_ rfl)) (fun _ _ hh hl => lo_assign (v := .bool _) rfl) ?_
            refine vw_done (by kernel_rfl) ?_
            refine seqK_n ?_
            refine cw_cond rfl (fun h37 => ?_) (fun h37 => ?_)
            · have p38 := dt h37
              refine cw_region ?_
              refine ow1 (op1_l rfl (lo_move (v := .int _ _) rfl) ?_)
              refine ow1 (op1_l rfl (lo_add rfl rfl (rg_i64 (by omega))) ?_)
              refine ow1 (op1_l rfl (lo_move (v := .int _ _) rfl) ?_)
              refine ow1 (op1_l rfl (lo_add rfl rfl (rg_i64 (by omega))) ?_)
              refine ow1 (op1_l rfl (lo_assign (v := .int _ _) rfl) ?_)
              refine ow1 (op1_l rfl (lo_assign (v := .int _ _) rfl) ?_)
              refine ow_nil ?_
              refine blkK_n ?_
              refine blkK_n ?_
              refine next4 (i + 1) (j + 1) b f (upd_intro (upd_intro (upd_intro (upd_intro (mask_intro (by first | exact off_refl | (repeat (first | exact off_mask | refine off_upd rfl ?_ | refine off_mask2 rfl ?_)))) (congrArg (Value.int .i64) (by omega))) rfl) rfl) rfl) (lmask_intro (by first | exact offl_refl | (repeat (first | exact offl_mask | refine offl_upd rfl ?_ | refine offl_mask2 rfl ?_)))) hl12 ?_ ?_
              · exact MI.step hmi hc18 hc33 (by assumption) (by first | exact .inl (by assumption) | exact .inr (by assumption))
              · exact mmu_step (by omega)
            · have p39 := df h37
              refine cw_seq ?_
              refine cw_region ?_
              refine ow1 (op1_l rfl (lo_move (v := .int _ _) rfl) ?_)
              refine ow1 (op1_l rfl (lo_geq rfl rfl) ?_)
              refine ow1 (op1_l rfl (lo_assign (v := .bool _) rfl) ?_)
              refine ow_nil ?_
              refine seqK_n ?_
              refine cw_cond rfl (fun h40 => ?_) (fun h40 => ?_)
              · have p41 := dt h40
                refine cw_seq ?_
                refine cw_region ?_
                refine ow1 (op1_l rfl (lo_move (v := .int _ _) rfl) ?_)
                refine ow1 (op1_l rfl (lo_add rfl rfl (rg_i64 (by omega))) ?_)
                refine ow1 (op1_l rfl (lo_assign (v := .int _ _) rfl) ?_)
                refine ow_nil ?_
                refine seqK_n ?_
                refine cw_region ?_
                refine ow1 (op1_l rfl (lo_move (v := .int _ _) rfl) ?_)
                refine ow1 (op1_l rfl (lo_move (v := .int _ _) rfl) ?_)
                refine ow1 (op1_l rfl (lo_assign (v := .int _ _) rfl) ?_)
                refine ow1 (op1_l rfl (lo_assign (v := .int _ _) rfl) ?_)
                refine ow_nil ?_
                refine blkK_n ?_
                refine blkK_n ?_
                have hbad : ∀ w, (wordsOf pattern)[i]? = some w → w ≠ [35] ∧ w ≠ [42] ∧ w ≠ c32 := by
                  intro w hw
                  rw [hc18] at hw; cases hw
                  exact ⟨by assumption, by assumption, by assumption⟩
                refine next4 b.toNat (f + 1) b (f + 1) (upd_intro (upd_intro (upd_intro (upd_intro (mask_intro (by first | exact off_refl | (repeat (first | exact off_mask | refine off_upd rfl ?_ | refine off_mask2 rfl ?_)))) (congrArg (Value.int .i64) (by omega))) rfl) rfl) rfl) (lmask_intro (by first | exact offl_refl | (repeat (first | exact offl_mask | refine offl_upd rfl ?_ | refine offl_mask2 rfl ?_)))) hl12 ?_ ?_
                · exact MI.back hmi hc33 (by omega) hbad
                · exact mmu_back hmi.hf (by omega)
              · have p42 := df h40
                refine cw_seq ?_
                refine cw_region ?_
                refine ow1 (op1_l rfl (lo_assign (v := .bool _) rfl) ?_)
                refine ow_nil ?_
                refine seqK_n ?_
                refine cw_ret ?_
                refine blkK_r ?_
                refine blkK_r ?_
                refine loopK_r ?_
                refine blkK_r ?_
                refine seqK_r ?_
                refine fnK_r (res1 rfl (rv_t (v := .bool _) rfl)) ((((HLe.refl _).trans hl4).trans hl9).trans hl12) ?_
                have hbad : ∀ w, (wordsOf pattern)[i]? = some w → w ≠ [35] ∧ w ≠ [42] ∧ w ≠ c32 := by
                  intro w hw
                  rw [hc18] at hw; cases hw
                  exact ⟨by assumption, by assumption, by assumption⟩
                exact congrArg Value.bool (MI.none hmi hc33 (by omega) hbad).symm
      · have p43 := df h15
        refine ow1 (op1_gs rfl h15 rfl ?_)
        refine ow1 (op1_gs rfl h15 rfl ?_)
        refine ow1 (op1_gs rfl h15 rfl ?_)
        refine ow1 (op1_gs rfl h15 rfl ?_)
        refine ow1 (op1_gs rfl h15 rfl ?_)
        refine ow1 (op1_l rfl (lo_pick_f (v := .bool _) rfl h15 rfl) ?_)
        refine ow1 (op1_l rfl (lo_assign (v := .bool _) rfl) ?_)
        refine ow_nil ?_
        refine seqK_n ?_
        refine cw_cond_f rfl rfl ?_
        refine cw_seq ?_
        refine cw_anyL mixd ?_
        refine vw_q 0 rfl (by kernel_rfl) (by repeat (first | exact lle_l0 | exact LLe.refl _ | exact lle_none | refine lle_up ?_ rfl)) (fun _ _ hh hl => lo_move (v := .int _ _) rfl) ?_
        refine vw_q 1 rfl (by kernel_rfl) (by repeat (first | exact lle_l0 | exact LLe.refl _ | exact lle_none | refine lle_up ?_ rfl)) (fun _ _ hh hl => lo_move (v := .slice _ _ _) rfl) ?_
        refine vw_q 2 rfl (by kernel_rfl) (by repeat (first | exact lle_l0 | exact LLe.refl _ | exact lle_none | refine lle_up ?_ rfl)) (fun _ _ hh hl => lo_len_slh rfl (hs3.mono ((((HLe.refl _).trans hl9).trans hl12).trans hh) (fun _ _ h => h)) Tryz.underlying245) ?_
        refine vw_q 3 rfl (by kernel_rfl) (by repeat (first | exact lle_l0 | exact LLe.refl _ | exact lle_none | refine lle_up ?_ rfl)) (fun _ _ hh hl => lo_lss rfl rfl) ?_
        refine vw_q 4 rfl (by kernel_rfl) (by repeat (first | exact lle_l0 | exact LLe.refl _ | exact lle_none | refine lle_up ?_ rfl)) (fun _ _ hh hl => lo_move (v := .bool _) rfl) ?_
        refine vw_qgs 5 rfl (by kernel_rfl) (by repeat (first | exact lle_l0 | exact LLe.refl _ | exact lle_none | refine lle_up ?_ rfl)) rfl h15 ?_
        refine vw_qgs 6 rfl (by kernel_rfl) (by repeat (first | exact lle_l0 | exact LLe.refl _ | exact lle_none | refine lle_up ?_ rfl)) rfl h15 ?_
        refine vw_qgs 7 rfl (by kernel_rfl) (by repeat (first | exact lle_l0 | exact LLe.refl _ | exact lle_none | refine lle_up ?_ rfl)) rfl h15 ?_
        refine vw_qgs 8 rfl (by kernel_rfl) (by repeat (first | exact lle_l0 | exact LLe.refl _ | exact lle_none | refine lle_up ?_ rfl)) rfl h15 ?_
        refine vw_qgs 9 rfl (by kernel_rfl) (by repeat (first | exact lle_l0 | exact LLe.refl _ | exact lle_none | refine lle_up ?_ rfl)) rfl h15 ?_
        refine vw_qgs 10 rfl (by kernel_rfl) (by repeat (first | exact lle_l0 | exact LLe.refl _ | exact lle_none | refine lle_up ?_ rfl)) rfl h15 ?_
        refine vw_qgx (j := 10) 11 rfl (by kernel_rfl) (by repeat (first | exact lle_l0 | exact LLe.refl _ | exact lle_none | refine lle_up ?_ rfl)) rfl ?_
        refine vw_qgx (j := 10) 12 rfl (by kernel_rfl) (by repeat (first | exact lle_l0 | exact LLe.refl _ | exact lle_none | refine lle_up ?_ rfl)) rfl ?_
        refine vw_qgx (j := 10) 13 rfl (by kernel_rfl) (by repeat (first | exact lle_l0 | exact LLe.refl _ | exact lle_none | refine lle_up ?_ rfl)) rfl ?_
        refine vw_qgx (j := 10) 14 rfl (by kernel_rfl) (by repeat (first | exact lle_l0 | exact LLe.refl _ | exact lle_none | refine lle_up ?_ rfl)) rfl ?_
        refine vw_qgx (j := 10) 15 rfl (by kernel_rfl) (by repeat (first | exact lle_l0 | exact LLe.refl _ | exact lle_none | refine lle_up ?_ rfl)) rfl ?_
        refine vw_qgx (j := 10) 16 rfl (by kernel_rfl) (by repeat (first | exact lle_l0 | exact LLe.refl _ | exact lle_none | refine lle_up ?_ rfl)) rfl ?_
        refine vw_qgx (j := 10) 17 rfl (by kernel_rfl) (by repeat (first | exact lle_l0 | exact LLe.refl _ | exact lle_none | refine lle_up ?_ rfl)) rfl ?_
        refine vw_qgx (j := 10) 18 rfl (by kernel_rfl) (by repeat (first | exact lle_l0 | exact LLe.refl _ | exact lle_none | refine lle_up ?_ rfl)) rfl ?_
        refine vw_qgx (j := 10) 19 rfl (by kernel_rfl) (by repeat (first | exact lle_l0 | exact LLe.refl _ | exact lle_none | refine lle_up ?_ rfl)) rfl ?_
        refine vw_qgs 20 rfl (by kernel_rfl) (by repeat (first | exact lle_l0 | exact LLe.refl _ | exact lle_none | refine lle_up ?_ rfl)) rfl h15 ?_
        refine vw_q 21 rfl (by kernel_rfl) (by repeat (first | exact lle_l0 | exact LLe.refl _ | exact lle_none | refine lle_up ?_ rfl)) (fun _ _ hh hl => lo_pick_f (v := .bool _) rfl h15 rfl) ?_
        refine vw_q 22 rfl (by kernel_rfl) (by repeat (first | exact lle_l0 | exact LLe.refl _ | exact lle_none | refine lle_up ?_ rfl)) (fun _ _ hh hl => lo_assign (v := .bool _) rfl) ?_
        refine vw_done (by kernel_rfl) ?_
        refine seqK_n ?_
        refine cw_cond_f rfl rfl ?_
        refine cw_seq ?_
        refine cw_region ?_
        refine ow1 (op1_l rfl (lo_move (v := .int _ _) rfl) ?_)
        refine ow1 (op1_l rfl (lo_geq rfl rfl) ?_)
        refine ow1 (op1_l rfl (lo_assign (v := .bool _) rfl) ?_)
        refine ow_nil ?_
        refine seqK_n ?_
        refine cw_cond rfl (fun h44 => ?_) (fun h44 => ?_)
        · have p45 := dt h44
          refine cw_seq ?_
          refine cw_region ?_
          refine ow1 (op1_l rfl (lo_move (v := .int _ _) rfl) ?_)
          refine ow1 (op1_l rfl (lo_add rfl rfl (rg_i64 (by omega))) ?_)
          refine ow1 (op1_l rfl (lo_assign (v := .int _ _) rfl) ?_)
          refine ow_nil ?_
          refine seqK_n ?_
          refine cw_region ?_
          refine ow1 (op1_l rfl (lo_move (v := .int _ _) rfl) ?_)
          refine ow1 (op1_l rfl (lo_move (v := .int _ _) rfl) ?_)
          refine ow1 (op1_l rfl (lo_assign (v := .int _ _) rfl) ?_)
          refine ow1 (op1_l rfl (lo_assign (v := .int _ _) rfl) ?_)
          refine ow_nil ?_
          refine blkK_n ?_
          refine blkK_n ?_
          obtain ⟨c46, hc47⟩ := getE (xs := wordsOf key) (m := j) (by omega)
          have hbad : ∀ w, (wordsOf pattern)[i]? = some w → w ≠ [35] ∧ w ≠ [42] ∧ w ≠ c46 := by
            intro w hw
            rw [List.getElem?_eq_none (by omega)] at hw; cases hw
          refine next4 b.toNat (f + 1) b (f + 1) (upd_intro (upd_intro (upd_intro (upd_intro (mask_intro (by first | exact off_refl | (repeat (first | exact off_mask | refine off_upd rfl ?_ | refine off_mask2 rfl ?_)))) (congrArg (Value.int .i64) (by omega))) rfl) rfl) rfl) (lmask_intro (by first | exact offl_refl | (repeat (first | exact offl_mask | refine offl_upd rfl ?_ | refine offl_mask2 rfl ?_)))) hl12 ?_ ?_
          · exact MI.back hmi hc47 (by omega) hbad
          · exact mmu_back hmi.hf (by omega)
        · have p48 := df h44
          refine cw_seq ?_
          refine cw_region ?_
          refine ow1 (op1_l rfl (lo_assign (v := .bool _) rfl) ?_)
          refine ow_nil ?_
          refine seqK_n ?_
          refine cw_ret ?_
          refine blkK_r ?_
          refine blkK_r ?_
          refine loopK_r ?_
          refine blkK_r ?_
          refine seqK_r ?_
          refine fnK_r (res1 rfl (rv_t (v := .bool _) rfl)) ((((HLe.refl _).trans hl4).trans hl9).trans hl12) ?_
          obtain ⟨cz, hcz⟩ := getE (xs := wordsOf key) (m := j) (by omega)
          have hbad : ∀ w, (wordsOf pattern)[i]? = some w → w ≠ [35] ∧ w ≠ [42] ∧ w ≠ cz := by
            intro w hw
            rw [List.getElem?_eq_none (by omega)] at hw; cases hw
          exact congrArg Value.bool (MI.none hmi hcz (by omega) hbad).symm
    · have p49 := df h13
      refine cw_exit ?_
      refine seqK_e ?_
      refine loopK_e ?_
      refine blkK_hit ?_
      refine seqK_n ?_
      refine cw_seq ?_
      refine cw_block ?_
      refine cw_loop1 [7, 69, 70, 71, 72, 73, 74, 75, 76, 77, 78, 79, 80, 81] [] (fun (q : Nat) G => upd (G) 7 (.int .i64 (q : Int))) (fun (q : Nat) G => G) (fun (q : Nat) H' => q ≤ (wordsOf pattern).length ∧ mt (wordsOf pattern) (wordsOf key) = mt ((wordsOf pattern).drop q) []) (fun (q : Nat) => (wordsOf pattern).length - q) i (upd_intro (mask_intro (by first | exact off_refl | (repeat (first | exact off_mask | refine off_upd rfl ?_ | refine off_mask2 rfl ?_)))) rfl) (lmask_intro offl_refl) ?_ ?_
      · exact ⟨by omega, hmi.fin (by omega)⟩
      · intro q J51 JL51 H51 hp50 hl51
        obtain ⟨hq1, hq2⟩ := hp50
        refine cw_seq ?_
        refine cw_seq ?_
        refine cw_region ?_
        refine ow1 (op1_l rfl (lo_move (v := .int _ _) rfl) ?_)
        refine ow1 (op1_l rfl (lo_move (v := .slice _ _ _) rfl) ?_)
        refine ow1 (op1_l rfl (lo_len_slh rfl (hs3.mono ((((HLe.refl _).trans hl9).trans hl12).trans hl51) (fun _ _ h => h)) Tryz.underlying245) ?_)
        refine ow1 (op1_l rfl (lo_lss rfl rfl) ?_)
        refine ow1 (op1_l rfl (lo_move (v := .bool _) rfl) ?_)
        refine ow_sp (j := 4) rfl (fun h52 => ?_) (fun h52 => ?_)
        · have p53 := dt h52
          refine ow1 (op1_g rfl h52 rfl (lo_move (v := .slice _ _ _) rfl) ?_)
          refine ow1 (op1_g rfl h52 rfl (lo_move (v := .int _ _) rfl) ?_)
          obtain ⟨c54, hc55⟩ := getE (xs := wordsOf pattern) (m := q) (by omega)
          obtain ⟨cs56, hE57, at58⟩ := (hs3.mono ((((HLe.refl _).trans hl9).trans hl12).trans hl51) (fun _ _ h => h)).get hc55
          obtain ⟨rfl, c54_w⟩ := hE57
          have c54_w : c54.length ≤ 9223372036854775807 := c54_w
          refine ow1 (op1_g rfl h52 rfl (lo_indexAddr rfl rfl (hs3.mono ((((HLe.refl _).trans hl9).trans hl12).trans hl51) (fun _ _ h => h)).1 at58 Tryz.underlying245 sz9 (by omega) (by omega)) ?_)
          refine ow1 (op1_g rfl h52 rfl (lo_loadE1 rfl ag9 at58) ?_)
          refine ow1 (op1_g rfl h52 rfl (lo_seql rfl rfl) ?_)
          refine ow1 (op1_l rfl (lo_pick_t (v := .bool _) rfl h52 rfl) ?_)
          refine ow_nil ?_
          refine seqK_n ?_
          refine cw_cond rfl (fun h59 => ?_) (fun h59 => ?_)
          · have p60 := dt h59
            refine cw_skip ?_
            refine seqK_n ?_
            refine cw_block ?_
            refine cw_region ?_
            refine ow1 (op1_l rfl (lo_move (v := .int _ _) rfl) ?_)
            refine ow1 (op1_l rfl (lo_add rfl rfl (rg_i64 (by omega))) ?_)
            refine ow1 (op1_l rfl (lo_assign (v := .int _ _) rfl) ?_)
            refine ow_nil ?_
            refine blkK_n ?_
            refine next1 (q + 1) (upd_intro (mask_intro (by first | exact off_refl | (repeat (first | exact off_mask | refine off_upd rfl ?_ | refine off_mask2 rfl ?_)))) rfl) (lmask_intro (by first | exact offl_refl | (repeat (first | exact offl_mask | refine offl_upd rfl ?_ | refine offl_mask2 rfl ?_)))) hl51 ?_ ?_
            · exact ⟨by omega, mt_end hq2 (by rw [hc55]; simp [*])⟩
            · omega
          · have p61 := df h59
            refine cw_exit ?_
            refine seqK_e ?_
            refine loopK_e ?_
            refine blkK_hit ?_
            refine seqK_n ?_
            refine cw_seq ?_
            refine cw_region ?_
            refine ow1 (op1_l rfl (lo_move (v := .int _ _) rfl) ?_)
            refine ow1 (op1_l rfl (lo_move (v := .slice _ _ _) rfl) ?_)
            refine ow1 (op1_l rfl (lo_len_slh rfl (hs3.mono ((((HLe.refl _).trans hl9).trans hl12).trans hl51) (fun _ _ h => h)) Tryz.underlying245) ?_)
            refine ow1 (op1_l rfl (lo_eql rfl rfl) ?_)
            refine ow1 (op1_l rfl (lo_assign (v := .bool _) rfl) ?_)
            refine ow_nil ?_
            refine seqK_n ?_
            refine cw_ret ?_
            refine fnK_r (res1 rfl (rv_t (v := .bool _) rfl)) (((((HLe.refl _).trans hl4).trans hl9).trans hl12).trans hl51) ?_
            refine congrArg Value.bool ?_
            rw [hq2]
            rw [mt_endN hc55 (by assumption)]
            rw [decide_eq_false_iff_not]; omega
        · have p62 := df h52
          refine ow1 (op1_gs rfl h52 rfl ?_)
          refine ow1 (op1_gs rfl h52 rfl ?_)
          refine ow1 (op1_gs rfl h52 rfl ?_)
          refine ow1 (op1_gs rfl h52 rfl ?_)
          refine ow1 (op1_gs rfl h52 rfl ?_)
          refine ow1 (op1_l rfl (lo_pick_f (v := .bool _) rfl h52 rfl) ?_)
          refine ow_nil ?_
          refine seqK_n ?_
          refine cw_cond_f rfl rfl ?_
          refine cw_exit ?_
          refine seqK_e ?_
          refine loopK_e ?_
          refine blkK_hit ?_
          refine seqK_n ?_
          refine cw_seq ?_
          refine cw_region ?_
          refine ow1 (op1_l rfl (lo_move (v := .int _ _) rfl) ?_)
          refine ow1 (op1_l rfl (lo_move (v := .slice _ _ _) rfl) ?_)
          refine ow1 (op1_l rfl (lo_len_slh rfl (hs3.mono ((((HLe.refl _).trans hl9).trans hl12).trans hl51) (fun _ _ h => h)) Tryz.underlying245) ?_)
          refine ow1 (op1_l rfl (lo_eql rfl rfl) ?_)
          refine ow1 (op1_l rfl (lo_assign (v := .bool _) rfl) ?_)
          refine ow_nil ?_
          refine seqK_n ?_
          refine cw_ret ?_
          refine fnK_r (res1 rfl (rv_t (v := .bool _) rfl)) (((((HLe.refl _).trans hl4).trans hl9).trans hl12).trans hl51) ?_
          refine congrArg Value.bool ?_
          rw [hq2]
          have hqe : q = (wordsOf pattern).length := by omega
          subst hqe
          rw [List.drop_length]; simp [mt]

theorem l04_awake (H : Hp)  (hML : GInt H 2) : Pr Tryz.prog 244 #[] H (.bool true) := by
  refine pr_cw Tryz.func244 rfl Tryz.ntmps244 rfl (fun N => ?_)
  refine cw_seq ?_
  refine cw_region ?_
  refine ow1 (op1_l rfl (lo_assign (v := .bool _) rfl) ?_)
  refine ow_nil ?_
  refine seqK_n ?_
  refine cw_seq ?_
  refine cw_region ?_
  refine ow1 (op1_pr (words_Matches _ [97, 46, 42, 46, 35] [97, 46, 98] hML (by first | omega | (simp; done) | decide) (by first | omega | (simp; done) | decide)) (en_f cb257 rfl) rfl ?_)
  refine ow1 (op1_l rfl (lo_move (v := .bool _) rfl) ?_)
  refine ow1 (op1_prg rfl (by decide +kernel) (words_Matches _ [97, 46, 42, 46, 35] [97, 46, 98, 46, 99, 46, 100] hML (by first | omega | (simp; done) | decide) (by first | omega | (simp; done) | decide)) (en_f cb257 rfl) rfl ?_)
  refine ow1 (op1_l rfl (lo_pick_t (v := .bool _) rfl (by decide +kernel) rfl) ?_)
  refine ow1 (op1_l rfl (lo_move (v := .bool _) rfl) ?_)
  refine ow1 (op1_prg rfl (by decide +kernel) (words_Matches _ [97, 46, 42, 46, 35] [97] hML (by first | omega | (simp; done) | decide) (by first | omega | (simp; done) | decide)) (en_f cb257 rfl) rfl ?_)
  refine ow1 (op1_g rfl (by decide +kernel) rfl (lo_not rfl) ?_)
  refine ow1 (op1_l rfl (lo_pick_t (v := .bool _) rfl (by decide +kernel) rfl) ?_)
  refine ow1 (op1_l rfl (lo_move (v := .bool _) rfl) ?_)
  refine ow1 (op1_prg rfl (by decide +kernel) (words_Name _ [97, 45, 49] (by first | omega | decide | (simp; done))) (en_f cb116 rfl) rfl ?_)
  refine ow1 (op1_g rfl (by decide +kernel) rfl (lo_eql rfl rfl) ?_)
  refine ow1 (op1_l rfl (lo_pick_t (v := .bool _) rfl (by decide +kernel) rfl) ?_)
  refine ow1 (op1_l rfl (lo_assign (v := .bool _) rfl) ?_)
  refine ow_nil ?_
  refine seqK_n ?_
  refine cw_ret ?_
  refine fnK_r (res1 rfl (rv_t (v := .bool _) rfl)) (.refl _) ?_
  exact congrArg Value.bool (by decide +kernel)

theorem l04_Awake (H : Hp)  (hML : GInt H 2) : Pr Tryz.prog 223 #[] H (.bool true) := by
  refine pr_cw Tryz.func223 rfl Tryz.ntmps223 rfl (fun N => ?_)
  refine cw_seq ?_
  refine cw_region ?_
  refine ow1 (op1_l rfl (lo_assign (v := .bool _) rfl) ?_)
  refine ow_nil ?_
  refine seqK_n ?_
  refine cw_seq ?_
  refine cw_region ?_
  refine ow1 (op1_pr (l04_awake _ hML) (en_f cb244 rfl) rfl ?_)
  refine ow1 (op1_l rfl (lo_assign (v := .bool _) rfl) ?_)
  refine ow_nil ?_
  refine seqK_n ?_
  refine cw_ret ?_
  refine fnK_r (res1 rfl (rv_t (v := .bool _) rfl)) (.refl _) ?_
  rfl

theorem l09_awake (H : Hp)  (hML : GInt H 2) : Pr Tryz.prog 185 #[] H (.bool true) := by
  refine pr_cw Tryz.func185 rfl Tryz.ntmps185 rfl (fun N => ?_)
  refine cw_seq ?_
  refine cw_region ?_
  refine ow1 (op1_l rfl (lo_assign (v := .bool _) rfl) ?_)
  refine ow_nil ?_
  refine seqK_n ?_
  refine cw_seq ?_
  refine cw_region ?_
  refine ow1 (op1_pr (head_Bytes _ none 0 0 [] slh_nil (by first | omega | (simp <;> omega))) (en_f cb110 rfl) rfl ?_)
  have := headBytes_len []
  refine ow1 (op1_l rfl (lo_move (v := .tuple #[_, _]) rfl) ?_)
  refine ow1 (op1_l rfl (lo_extract (v := str _) rfl rfl) ?_)
  refine ow1 (op1_l rfl (lo_extract (v := .int _ _) rfl rfl) ?_)
  refine ow1 (op1_l rfl (lo_assign (v := str _) rfl) ?_)
  refine ow1 (op1_l rfl (lo_assign (v := .int _ _) rfl) ?_)
  refine ow_nil ?_
  refine seqK_n ?_
  refine cw_seq ?_
  refine cw_region ?_
  refine ow1 (op1_pr (l01_Awake _ ) (en_f cb222 rfl) rfl ?_)
  refine ow1 (op1_l rfl (lo_move (v := .bool _) rfl) ?_)
  refine ow1 (op1_prg rfl rfl (l04_Awake _ hML) (en_f cb223 rfl) rfl ?_)
  refine ow1 (op1_l rfl (lo_pick_t (v := .bool _) rfl rfl rfl) ?_)
  refine ow1 (op1_l rfl (lo_move (v := .bool _) rfl) ?_)
  refine ow1 (op1_g rfl rfl rfl (lo_move (v := .int _ _) rfl) ?_)
  refine ow1 (op1_g rfl rfl rfl (lo_eql rfl rfl) ?_)
  refine ow1 (op1_l rfl (lo_pick_t (v := .bool _) rfl rfl rfl) ?_)
  refine ow1 (op1_l rfl (lo_move (v := .bool _) rfl) ?_)
  refine ow1 (op1_g rfl (by decide +kernel) rfl (lo_move (v := str _) rfl) ?_)
  refine ow1 (op1_g rfl (by decide +kernel) rfl (lo_seql rfl rfl) ?_)
  refine ow1 (op1_l rfl (lo_pick_t (v := .bool _) rfl (by decide +kernel) rfl) ?_)
  refine ow1 (op1_l rfl (lo_assign (v := .bool _) rfl) ?_)
  refine ow_nil ?_
  refine seqK_n ?_
  refine cw_ret ?_
  refine fnK_r (res1 rfl (rv_t (v := .bool _) rfl)) (.refl _) ?_
  exact congrArg Value.bool (by decide +kernel)

theorem l09_Awake (H : Hp)  (hML : GInt H 2) : Pr Tryz.prog 82 #[] H (.bool true) := by
  refine pr_cw Tryz.func82 rfl Tryz.ntmps82 rfl (fun N => ?_)
  refine cw_seq ?_
  refine cw_region ?_
  refine ow1 (op1_l rfl (lo_assign (v := .bool _) rfl) ?_)
  refine ow_nil ?_
  refine seqK_n ?_
  refine cw_seq ?_
  refine cw_region ?_
  refine ow1 (op1_pr (l09_awake _ hML) (en_f cb185 rfl) rfl ?_)
  refine ow1 (op1_l rfl (lo_assign (v := .bool _) rfl) ?_)
  refine ow_nil ?_
  refine seqK_n ?_
  refine cw_ret ?_
  refine fnK_r (res1 rfl (rv_t (v := .bool _) rfl)) (.refl _) ?_
  rfl

end Go.SW


set_option linter.unusedVariables false
set_option maxRecDepth 100000
set_option maxHeartbeats 4000000
namespace Go.SW
open Go.Proofs
theorem by244 : By Tryz.prog 244 48 := by_of (by kernel_rfl)
theorem cb145 : Callable Tryz.prog 145 := callable_of Tryz.func145 (by kernel_rfl) (by kernel_rfl)
theorem cb209 : Callable Tryz.prog 209 := callable_of Tryz.func209 (by kernel_rfl) (by kernel_rfl)
theorem cb83 : Callable Tryz.prog 83 := callable_of Tryz.func83 (by kernel_rfl) (by kernel_rfl)
theorem eqr244 (p q : Pair) (d : Nat) : EqV Tryz.prog (d + 1 + 1) 244 (.agg (Pair.cells p).toArray) (.agg (Pair.cells q).toArray) (decide (p = q)) :=
  EqV.to (eqv_agg Tryz.underlying244 (by kernel_rfl) (eqf_1 (by decide) ag9 rfl rfl (eqv_str Tryz.underlying9) (eqf_1 (by decide) ag5 rfl rfl (eqv_int Tryz.underlying5) (eqf_1 (by decide) ag2 rfl rfl (eqv_int Tryz.underlying2) (eqf_1 (by decide) ag9 rfl rfl (eqv_str Tryz.underlying9) eqf_nil))))) (by obtain ⟨a0, a1, a2, a3⟩ := p; obtain ⟨b0, b1, b2, b3⟩ := q; rw [Bool.eq_iff_iff]; simp)
theorem eqg244 : Tryz.prog.eqGuardType Tryz.prog.depth 244 = false := by kernel_rfl
theorem sz26 : Sz Tryz.prog 26 1 := fun w => by kernel_rfl
theorem zx244 : ∃ z, ∀ w, (zeroValue 244).run Tryz.prog w = .ok z w := ⟨.agg #[str [], .int .u8 0, .int .i64 0, str []], fun w => by kernel_rfl⟩

theorem eq_Pair (H : Hp) (a_a : Option Addr) (a_l a_c : Nat) (a : List Pair) (a_h : SlH pairE 4 H (.slice a_a a_l a_c) a) (b_a : Option Addr) (b_l b_c : Nat) (b : List Pair) (b_h : SlH pairE 4 H (.slice b_a b_l b_c) b) (hal : a.length ≤ 9223372036854775807) : Pr Tryz.prog 209 #[.slice a_a a_l a_c, .slice b_a b_l b_c] H (.bool (decide (a = b))) := by
  refine pr_cw Tryz.func209 rfl Tryz.ntmps209 rfl (fun N => ?_)
  refine cw_seq ?_
  refine cw_region ?_
  refine ow1 (op1_l rfl (lo_assign (v := .bool _) rfl) ?_)
  refine ow_nil ?_
  refine seqK_n ?_
  refine cw_seq ?_
  refine cw_seq ?_
  refine cw_region ?_
  refine ow1 (op1_l rfl (lo_move (v := .slice _ _ _) rfl) ?_)
  refine ow1 (op1_l rfl (lo_len_slh rfl a_h Tryz.underlying26) ?_)
  refine ow1 (op1_l rfl (lo_move (v := .slice _ _ _) rfl) ?_)
  refine ow1 (op1_l rfl (lo_len_slh rfl b_h Tryz.underlying26) ?_)
  refine ow1 (op1_l rfl (lo_neq rfl rfl) ?_)
  refine ow_nil ?_
  refine seqK_n ?_
  refine cw_cond rfl (fun h1 => ?_) (fun h1 => ?_)
  · have h2 := not_t h1
    have p3 := df h2
    refine cw_seq ?_
    refine cw_region ?_
    refine ow1 (op1_l rfl (lo_assign (v := .bool _) rfl) ?_)
    refine ow_nil ?_
    refine seqK_n ?_
    refine cw_ret ?_
    refine seqK_r ?_
    refine fnK_r (res1 rfl (rv_t (v := .bool _) rfl)) (.refl _) ?_
    exact congrArg Value.bool (eqL_len (by assumption)).symm
  · have h4 := not_f h1
    have p5 := dt h4
    refine cw_skip ?_
    refine seqK_n ?_
    refine cw_seq ?_
    refine cw_seq ?_
    refine cw_region ?_
    refine ow1 (op1_l rfl (lo_move (v := .slice _ _ _) rfl) ?_)
    refine ow1 (op1_l rfl (lo_len_slh rfl a_h Tryz.underlying26) ?_)
    refine ow1 (op1_l rfl (lo_move (v := .int _ _) rfl) ?_)
    refine ow_nil ?_
    refine seqK_n ?_
    refine cw_block ?_
    refine cw_loop1 [4, 5, 13, 14, 15, 16, 17, 18, 19, 20, 21, 22, 23, 24, 25] [] (fun (k : Nat) G => upd (G) 13 (.int .i64 (k : Int))) (fun (k : Nat) G => G) (fun (k : Nat) H' => k ≤ a.length ∧ decide (a = b) = decide (a.drop k = b.drop k)) (fun (k : Nat) => a.length - k) 0 (upd_intro (mask_intro (by first | exact off_refl | (repeat (first | exact off_mask | refine off_upd rfl ?_ | refine off_mask2 rfl ?_)))) rfl) (lmask_intro offl_refl) ?_ ?_
    · exact ⟨Nat.zero_le _, rfl⟩
    · intro k J7 JL7 H7 hp6 hl7
      obtain ⟨hk1, hk2⟩ := hp6
      refine cw_seq ?_
      refine cw_region ?_
      refine ow1 (op1_l rfl (lo_lss rfl rfl) ?_)
      refine ow_nil ?_
      refine seqK_n ?_
      refine cw_seq ?_
      refine cw_cond rfl (fun h8 => ?_) (fun h8 => ?_)
      · have p9 := dt h8
        refine cw_skip ?_
        refine seqK_n ?_
        refine cw_seq ?_
        refine cw_block ?_
        refine cw_seq ?_
        refine cw_region ?_
        refine ow1 (op1_l rfl (lo_move (v := .int _ _) rfl) ?_)
        refine ow1 (op1_l rfl (lo_assign (v := .int _ _) rfl) ?_)
        refine ow_nil ?_
        refine seqK_n ?_
        refine cw_seq ?_
        refine cw_anyL mixd ?_
        refine vw_q 0 rfl (by kernel_rfl) (by repeat (first | exact lle_l0 | exact LLe.refl _ | exact lle_none | refine lle_up ?_ rfl)) (fun _ _ hh hl => lo_move (v := .slice _ _ _) rfl) ?_
        refine vw_q 1 rfl (by kernel_rfl) (by repeat (first | exact lle_l0 | exact LLe.refl _ | exact lle_none | refine lle_up ?_ rfl)) (fun _ _ hh hl => lo_move (v := .int _ _) rfl) ?_
        obtain ⟨c10, hc11⟩ := getE (xs := a) (m := k) (by omega)
        obtain ⟨cs12, hE13, at14⟩ := (a_h.mono ((HLe.refl _).trans hl7) (fun _ _ h => h)).get hc11
        obtain ⟨rfl, c10_w⟩ := hE13
        have c10_w' := c10_w
        simp only [Pair.wf] at c10_w'
        refine vw_q 2 rfl (by kernel_rfl) (by repeat (first | exact lle_l0 | exact LLe.refl _ | exact lle_none | refine lle_up ?_ rfl)) (fun _ _ hh hl => lo_indexAddr rfl rfl (a_h.mono (((HLe.refl _).trans hl7).trans hh) (fun _ _ h => h)).1 (at14.mono hh) Tryz.underlying26 sz244 (by omega) (by omega)) ?_
        refine vw_q 3 rfl (by kernel_rfl) (by repeat (first | exact lle_l0 | exact LLe.refl _ | exact lle_none | refine lle_up ?_ rfl)) (fun _ _ hh hl => lo_loadEA rfl ag244 sz244 (at14.mono hh)) ?_
        refine vw_q 4 rfl (by kernel_rfl) (by repeat (first | exact lle_l0 | exact LLe.refl _ | exact lle_none | refine lle_up ?_ rfl)) (fun _ _ hh hl => lo_move (v := .slice _ _ _) rfl) ?_
        refine vw_q 5 rfl (by kernel_rfl) (by repeat (first | exact lle_l0 | exact LLe.refl _ | exact lle_none | refine lle_up ?_ rfl)) (fun _ _ hh hl => lo_move (v := .int _ _) rfl) ?_
        obtain ⟨c15, hc16⟩ := getE (xs := b) (m := k) (by omega)
        obtain ⟨cs17, hE18, at19⟩ := (b_h.mono ((HLe.refl _).trans hl7) (fun _ _ h => h)).get hc16
        obtain ⟨rfl, c15_w⟩ := hE18
        have c15_w' := c15_w
        simp only [Pair.wf] at c15_w'
        refine vw_q 6 rfl (by kernel_rfl) (by repeat (first | exact lle_l0 | exact LLe.refl _ | exact lle_none | refine lle_up ?_ rfl)) (fun _ _ hh hl => lo_indexAddr rfl rfl (b_h.mono (((HLe.refl _).trans hl7).trans hh) (fun _ _ h => h)).1 (at19.mono hh) Tryz.underlying26 sz244 (by omega) (by omega)) ?_
        refine vw_q 7 rfl (by kernel_rfl) (by repeat (first | exact lle_l0 | exact LLe.refl _ | exact lle_none | refine lle_up ?_ rfl)) (fun _ _ hh hl => lo_loadEA rfl ag244 sz244 (at19.mono hh)) ?_
        refine vw_q 8 rfl (by kernel_rfl) (by repeat (first | exact lle_l0 | exact LLe.refl _ | exact lle_none | refine lle_up ?_ rfl)) (fun _ _ hh hl => lo_aneq (u := (Pair.cells c10).toArray) (v := (Pair.cells c15).toArray) rfl rfl eqg244 (eqr244 _ _ 9998)) ?_
        refine vw_done (by kernel_rfl) ?_
        refine seqK_n ?_
        refine cw_cond rfl (fun h20 => ?_) (fun h20 => ?_)
        · have h21 := not_t h20
          have p22 := df h21
          refine cw_seq ?_
          refine cw_region ?_
          refine ow1 (op1_l rfl (lo_assign (v := .bool _) rfl) ?_)
          refine ow_nil ?_
          refine seqK_n ?_
          refine cw_ret ?_
          refine blkK_r ?_
          refine seqK_r ?_
          refine loopK_r ?_
          refine blkK_r ?_
          refine seqK_r ?_
          refine fnK_r (res1 rfl (rv_t (v := .bool _) rfl)) ((HLe.refl _).trans hl7) ?_
          exact congrArg Value.bool (eqL_miss hk2 (dropE hc11) (dropE hc16) (by assumption)).symm
        · have h23 := not_f h20
          have p24 := dt h23
          refine cw_skip ?_
          refine blkK_n ?_
          refine seqK_n ?_
          refine cw_region ?_
          refine ow1 (op1_l rfl (lo_add rfl rfl (rg_i64 (by omega))) ?_)
          refine ow1 (op1_l rfl (lo_move (v := .int _ _) rfl) ?_)
          refine ow_nil ?_
          refine next1 (k + 1) (upd_intro (mask_intro (by first | exact off_refl | (repeat (first | exact off_mask | refine off_upd rfl ?_ | refine off_mask2 rfl ?_)))) rfl) (lmask_intro (by first | exact offl_refl | (repeat (first | exact offl_mask | refine offl_upd rfl ?_ | refine offl_mask2 rfl ?_)))) hl7 ?_ ?_
          · exact ⟨by omega, eqL_step hk2 (dropE hc11) (dropE hc16) (by assumption)⟩
          · omega
      · have p25 := df h8
        refine cw_exit ?_
        refine seqK_e ?_
        refine loopK_e ?_
        refine blkK_hit ?_
        refine seqK_n ?_
        refine cw_seq ?_
        refine cw_region ?_
        refine ow1 (op1_l rfl (lo_assign (v := .bool _) rfl) ?_)
        refine ow_nil ?_
        refine seqK_n ?_
        refine cw_ret ?_
        refine fnK_r (res1 rfl (rv_t (v := .bool _) rfl)) ((HLe.refl _).trans hl7) ?_
        exact congrArg Value.bool (eqL_end hk2 (by omega) (by omega)).symm

theorem head_Same (H : Hp) (a_a : Option Addr) (a_l a_c : Nat) (a : List Pair) (a_h : SlH pairE 4 H (.slice a_a a_l a_c) a) (b_a : Option Addr) (b_l b_c : Nat) (b : List Pair) (b_h : SlH pairE 4 H (.slice b_a b_l b_c) b) (hal : a.length ≤ 9223372036854775807) : Pr Tryz.prog 145 #[.slice a_a a_l a_c, .slice b_a b_l b_c] H (.bool (decide (a = b))) := by
  refine pr_cw Tryz.func145 rfl Tryz.ntmps145 rfl (fun N => ?_)
  refine cw_seq ?_
  refine cw_region ?_
  refine ow1 (op1_l rfl (lo_assign (v := .bool _) rfl) ?_)
  refine ow_nil ?_
  refine seqK_n ?_
  refine cw_seq ?_
  refine cw_region ?_
  refine ow1 (op1_l rfl (lo_move (v := .slice _ _ _) rfl) ?_)
  refine ow1 (op1_l rfl (lo_move (v := .slice _ _ _) rfl) ?_)
  refine ow1 (op1_pr (eq_Pair _ a_a a_l a_c a a_h b_a b_l b_c b b_h (by first | omega | (simp <;> omega))) (en_f cb209 rfl) rfl ?_)
  refine ow1 (op1_l rfl (lo_assign (v := .bool _) rfl) ?_)
  refine ow_nil ?_
  refine seqK_n ?_
  refine cw_ret ?_
  refine fnK_r (res1 rfl (rv_t (v := .bool _) rfl)) (.refl _) ?_
  rfl

theorem r9_Same (H : Hp) (a_a : Option Addr) (a_l a_c : Nat) (a : List Pair) (a_h : SlH pairE 4 H (.slice a_a a_l a_c) a) (b_a : Option Addr) (b_l b_c : Nat) (b : List Pair) (b_h : SlH pairE 4 H (.slice b_a b_l b_c) b) (hal : a.length ≤ 9223372036854775807) : Pr Tryz.prog 142 #[.slice a_a a_l a_c, .slice b_a b_l b_c] H (.bool (decide (a = b))) := by
  refine pr_cw Tryz.func142 rfl Tryz.ntmps142 rfl (fun N => ?_)
  refine cw_seq ?_
  refine cw_region ?_
  refine ow1 (op1_l rfl (lo_assign (v := .bool _) rfl) ?_)
  refine ow_nil ?_
  refine seqK_n ?_
  refine cw_seq ?_
  refine cw_seq ?_
  refine cw_region ?_
  refine ow1 (op1_l rfl (lo_move (v := .slice _ _ _) rfl) ?_)
  refine ow1 (op1_l rfl (lo_len_slh rfl a_h Tryz.underlying26) ?_)
  refine ow1 (op1_l rfl (lo_move (v := .slice _ _ _) rfl) ?_)
  refine ow1 (op1_l rfl (lo_len_slh rfl b_h Tryz.underlying26) ?_)
  refine ow1 (op1_l rfl (lo_neq rfl rfl) ?_)
  refine ow_nil ?_
  refine seqK_n ?_
  refine cw_cond rfl (fun h1 => ?_) (fun h1 => ?_)
  · have h2 := not_t h1
    have p3 := df h2
    refine cw_seq ?_
    refine cw_region ?_
    refine ow1 (op1_l rfl (lo_assign (v := .bool _) rfl) ?_)
    refine ow_nil ?_
    refine seqK_n ?_
    refine cw_ret ?_
    refine seqK_r ?_
    refine fnK_r (res1 rfl (rv_t (v := .bool _) rfl)) (.refl _) ?_
    exact congrArg Value.bool (eqL_len (by assumption)).symm
  · have h4 := not_f h1
    have p5 := dt h4
    refine cw_skip ?_
    refine seqK_n ?_
    refine cw_seq ?_
    refine cw_seq ?_
    refine cw_region ?_
    refine ow1 (op1_l rfl (lo_move (v := .slice _ _ _) rfl) ?_)
    refine ow1 (op1_l rfl (lo_len_slh rfl a_h Tryz.underlying26) ?_)
    refine ow1 (op1_l rfl (lo_move (v := .int _ _) rfl) ?_)
    refine ow_nil ?_
    refine seqK_n ?_
    refine cw_block ?_
    refine cw_loop1 [4, 5, 13, 14, 15, 16, 17, 18, 19, 20, 21, 22, 23, 24, 25] [] (fun (k : Nat) G => upd (G) 13 (.int .i64 (k : Int))) (fun (k : Nat) G => G) (fun (k : Nat) H' => k ≤ a.length ∧ decide (a = b) = decide (a.drop k = b.drop k)) (fun (k : Nat) => a.length - k) 0 (upd_intro (mask_intro (by first | exact off_refl | (repeat (first | exact off_mask | refine off_upd rfl ?_ | refine off_mask2 rfl ?_)))) rfl) (lmask_intro offl_refl) ?_ ?_
    · exact ⟨Nat.zero_le _, rfl⟩
    · intro k J7 JL7 H7 hp6 hl7
      obtain ⟨hk1, hk2⟩ := hp6
      refine cw_seq ?_
      refine cw_region ?_
      refine ow1 (op1_l rfl (lo_lss rfl rfl) ?_)
      refine ow_nil ?_
      refine seqK_n ?_
      refine cw_seq ?_
      refine cw_cond rfl (fun h8 => ?_) (fun h8 => ?_)
      · have p9 := dt h8
        refine cw_skip ?_
        refine seqK_n ?_
        refine cw_seq ?_
        refine cw_block ?_
        refine cw_seq ?_
        refine cw_region ?_
        refine ow1 (op1_l rfl (lo_move (v := .int _ _) rfl) ?_)
        refine ow1 (op1_l rfl (lo_assign (v := .int _ _) rfl) ?_)
        refine ow_nil ?_
        refine seqK_n ?_
        refine cw_seq ?_
        refine cw_anyL mixd ?_
        refine vw_q 0 rfl (by kernel_rfl) (by repeat (first | exact lle_l0 | exact LLe.refl _ | exact lle_none | refine lle_up ?_ rfl)) (fun _ _ hh hl => lo_move (v := .slice _ _ _) rfl) ?_
        refine vw_q 1 rfl (by kernel_rfl) (by repeat (first | exact lle_l0 | exact LLe.refl _ | exact lle_none | refine lle_up ?_ rfl)) (fun _ _ hh hl => lo_move (v := .int _ _) rfl) ?_
        obtain ⟨c10, hc11⟩ := getE (xs := a) (m := k) (by omega)
        obtain ⟨cs12, hE13, at14⟩ := (a_h.mono ((HLe.refl _).trans hl7) (fun _ _ h => h)).get hc11
        obtain ⟨rfl, c10_w⟩ := hE13
        have c10_w' := c10_w
        simp only [Pair.wf] at c10_w'
        refine vw_q 2 rfl (by kernel_rfl) (by repeat (first | exact lle_l0 | exact LLe.refl _ | exact lle_none | refine lle_up ?_ rfl)) (fun _ _ hh hl => lo_indexAddr rfl rfl (a_h.mono (((HLe.refl _).trans hl7).trans hh) (fun _ _ h => h)).1 (at14.mono hh) Tryz.underlying26 sz244 (by omega) (by omega)) ?_
        refine vw_q 3 rfl (by kernel_rfl) (by repeat (first | exact lle_l0 | exact LLe.refl _ | exact lle_none | refine lle_up ?_ rfl)) (fun _ _ hh hl => lo_loadEA rfl ag244 sz244 (at14.mono hh)) ?_
        refine vw_q 4 rfl (by kernel_rfl) (by repeat (first | exact lle_l0 | exact LLe.refl _ | exact lle_none | refine lle_up ?_ rfl)) (fun _ _ hh hl => lo_move (v := .slice _ _ _) rfl) ?_
        refine vw_q 5 rfl (by kernel_rfl) (by repeat (first | exact lle_l0 | exact LLe.refl _ | exact lle_none | refine lle_up ?_ rfl)) (fun _ _ hh hl => lo_move (v := .int _ _) rfl) ?_
        obtain ⟨c15, hc16⟩ := getE (xs := b) (m := k) (by omega)
        obtain ⟨cs17, hE18, at19⟩ := (b_h.mono ((HLe.refl _).trans hl7) (fun _ _ h => h)).get hc16
        obtain ⟨rfl, c15_w⟩ := hE18
        have c15_w' := c15_w
        simp only [Pair.wf] at c15_w'
        refine vw_q 6 rfl (by kernel_rfl) (by repeat (first | exact lle_l0 | exact LLe.refl _ | exact lle_none | refine lle_up ?_ rfl)) (fun _ _ hh hl => lo_indexAddr rfl rfl (b_h.mono (((HLe.refl _).trans hl7).trans hh) (fun _ _ h => h)).1 (at19.mono hh) Tryz.underlying26 sz244 (by omega) (by omega)) ?_
        refine vw_q 7 rfl (by kernel_rfl) (by repeat (first | exact lle_l0 | exact LLe.refl _ | exact lle_none | refine lle_up ?_ rfl)) (fun _ _ hh hl => lo_loadEA rfl ag244 sz244 (at19.mono hh)) ?_
        refine vw_q 8 rfl (by kernel_rfl) (by repeat (first | exact lle_l0 | exact LLe.refl _ | exact lle_none | refine lle_up ?_ rfl)) (fun _ _ hh hl => lo_aneq (u := (Pair.cells c10).toArray) (v := (Pair.cells c15).toArray) rfl rfl eqg244 (eqr244 _ _ 9998)) ?_
        refine vw_done (by kernel_rfl) ?_
        refine seqK_n ?_
        refine cw_cond rfl (fun h20 => ?_) (fun h20 => ?_)
        · have h21 := not_t h20
          have p22 := df h21
          refine cw_seq ?_
          refine cw_region ?_
          refine ow1 (op1_l rfl (lo_assign (v := .bool _) rfl) ?_)
          refine ow_nil ?_
          refine seqK_n ?_
          refine cw_ret ?_
          refine blkK_r ?_
          refine seqK_r ?_
          refine loopK_r ?_
          refine blkK_r ?_
          refine seqK_r ?_
          refine fnK_r (res1 rfl (rv_t (v := .bool _) rfl)) ((HLe.refl _).trans hl7) ?_
          exact congrArg Value.bool (eqL_miss hk2 (dropE hc11) (dropE hc16) (by assumption)).symm
        · have h23 := not_f h20
          have p24 := dt h23
          refine cw_skip ?_
          refine blkK_n ?_
          refine seqK_n ?_
          refine cw_region ?_
          refine ow1 (op1_l rfl (lo_add rfl rfl (rg_i64 (by omega))) ?_)
          refine ow1 (op1_l rfl (lo_move (v := .int _ _) rfl) ?_)
          refine ow_nil ?_
          refine next1 (k + 1) (upd_intro (mask_intro (by first | exact off_refl | (repeat (first | exact off_mask | refine off_upd rfl ?_ | refine off_mask2 rfl ?_)))) rfl) (lmask_intro (by first | exact offl_refl | (repeat (first | exact offl_mask | refine offl_upd rfl ?_ | refine offl_mask2 rfl ?_)))) hl7 ?_ ?_
          · exact ⟨by omega, eqL_step hk2 (dropE hc11) (dropE hc16) (by assumption)⟩
          · omega
      · have p25 := df h8
        refine cw_exit ?_
        refine seqK_e ?_
        refine loopK_e ?_
        refine blkK_hit ?_
        refine seqK_n ?_
        refine cw_seq ?_
        refine cw_region ?_
        refine ow1 (op1_l rfl (lo_assign (v := .bool _) rfl) ?_)
        refine ow_nil ?_
        refine seqK_n ?_
        refine cw_ret ?_
        refine fnK_r (res1 rfl (rv_t (v := .bool _) rfl)) ((HLe.refl _).trans hl7) ?_
        exact congrArg Value.bool (eqL_end hk2 (by omega) (by omega)).symm

theorem l09_Light (H : Hp) (h_a : Option Addr) (h_l h_c : Nat) (h : List Pair) (h_h : SlH pairE 4 H (.slice h_a h_l h_c) h) : Pr Tryz.prog 83 #[.slice h_a h_l h_c] H (.bool (lightH h)) := by
  refine pr_cw Tryz.func83 rfl Tryz.ntmps83 rfl (fun N => ?_)
  refine cw_seq ?_
  refine cw_region ?_
  refine ow1 (op1_l rfl (lo_assign (v := .bool _) rfl) ?_)
  refine ow_nil ?_
  refine seqK_n ?_
  refine cw_seq ?_
  refine cw_seq ?_
  refine cw_region ?_
  refine ow1 (op1_l rfl (lo_move (v := .slice _ _ _) rfl) ?_)
  refine ow1 (op1_l rfl (lo_len_slh rfl h_h Tryz.underlying26) ?_)
  refine ow1 (op1_l rfl (lo_gtr rfl rfl) ?_)
  refine ow_nil ?_
  refine seqK_n ?_
  refine cw_cond rfl (fun h1 => ?_) (fun h1 => ?_)
  · have p2 := dt h1
    refine cw_seq ?_
    refine cw_region ?_
    refine ow1 (op1_l rfl (lo_assign (v := .bool _) rfl) ?_)
    refine ow_nil ?_
    refine seqK_n ?_
    refine cw_ret ?_
    refine seqK_r ?_
    refine fnK_r (res1 rfl (rv_t (v := .bool _) rfl)) (.refl _) ?_
    exact congrArg Value.bool (by simp [lightH]; omega)
  · have p3 := df h1
    refine cw_skip ?_
    refine seqK_n ?_
    refine cw_seq ?_
    refine cw_seq ?_
    refine cw_region ?_
    refine ow1 (op1_l rfl (lo_move (v := .slice _ _ _) rfl) ?_)
    refine ow1 (op1_l rfl (lo_len_slh rfl h_h Tryz.underlying26) ?_)
    refine ow1 (op1_l rfl (lo_move (v := .int _ _) rfl) ?_)
    refine ow_nil ?_
    refine seqK_n ?_
    refine cw_block ?_
    refine cw_loop1 [2, 4, 10, 11, 12, 13, 14, 15, 16, 17, 18, 19, 20, 21, 22, 23, 24] [0] (fun (k : Nat) G => upd (G) 10 (.int .i64 (k : Int))) (fun (k : Nat) G => G) (fun (k : Nat) H' => k ≤ h.length ∧ h.all lightP = (h.drop k).all lightP) (fun (k : Nat) => h.length - k) 0 (upd_intro (mask_intro (by first | exact off_refl | (repeat (first | exact off_mask | refine off_upd rfl ?_ | refine off_mask2 rfl ?_)))) rfl) (lmask_intro offl_refl) ?_ ?_
    · exact ⟨Nat.zero_le _, rfl⟩
    · intro k J5 JL5 H5 hp4 hl5
      obtain ⟨hk1, hk2⟩ := hp4
      refine cw_seq ?_
      refine cw_region ?_
      refine ow1 (op1_l rfl (lo_lss rfl rfl) ?_)
      refine ow_nil ?_
      refine seqK_n ?_
      refine cw_seq ?_
      refine cw_cond rfl (fun h6 => ?_) (fun h6 => ?_)
      · have p7 := dt h6
        refine cw_skip ?_
        refine seqK_n ?_
        refine cw_seq ?_
        refine cw_block ?_
        refine cw_seq ?_
        refine cw_region ?_
        obtain ⟨c8, hc9⟩ := getE (xs := h) (m := k) (by omega)
        obtain ⟨cs10, hE11, at12⟩ := (h_h.mono ((HLe.refl _).trans hl5) (fun _ _ h => h)).get hc9
        obtain ⟨rfl, c8_w⟩ := hE11
        have c8_w' := c8_w
        simp only [Pair.wf] at c8_w'
        refine ow1 (op1_l rfl (lo_indexAddr rfl rfl (h_h.mono ((HLe.refl _).trans hl5) (fun _ _ h => h)).1 at12 Tryz.underlying26 sz244 (by omega) (by omega)) ?_)
        refine ow1 (op1_l rfl (lo_loadEA rfl ag244 sz244 at12) ?_)
        refine ow1 (op1_alloc 0 rfl zr244 (fun b13 => ?_))
        refine ow1 (op1_storeA (i := 0) (vs := [_, _, _, _]) rfl rfl rfl sz244 rfl rfl rfl ?_)
        refine ow_nil ?_
        refine seqK_n ?_
        refine cw_seq ?_
        refine cw_region ?_
        refine ow1 (op1_l rfl (lo_fieldAddr rfl fl244_0) ?_)
        refine ow1 (op1_l rfl (lo_load1 (i := 0) (v := str _) rfl ag9 rfl rfl) ?_)
        refine ow1 (op1_l rfl (lo_len_str rfl Tryz.underlying9) ?_)
        refine ow1 (op1_l rfl (lo_gtr rfl rfl) ?_)
        refine ow1 (op1_l rfl (lo_move (v := .bool _) rfl) ?_)
        refine ow_sp (j := 4) rfl (fun h14 => ?_) (fun h14 => ?_)
        · have p15 := dt h14
          refine ow1 (op1_gs rfl h14 rfl ?_)
          refine ow1 (op1_gs rfl h14 rfl ?_)
          refine ow1 (op1_gs rfl h14 rfl ?_)
          refine ow1 (op1_gs rfl h14 rfl ?_)
          refine ow1 (op1_l rfl (lo_pick_t (v := .bool _) rfl h14 rfl) ?_)
          refine ow_nil ?_
          refine seqK_n ?_
          refine cw_cond_t rfl rfl ?_
          refine cw_seq ?_
          refine cw_region ?_
          refine ow1 (op1_l rfl (lo_assign (v := .bool _) rfl) ?_)
          refine ow_nil ?_
          refine seqK_n ?_
          refine cw_ret ?_
          refine blkK_r ?_
          refine seqK_r ?_
          refine loopK_r ?_
          refine blkK_r ?_
          refine seqK_r ?_
          refine fnK_r (res1 rfl (rv_t (v := .bool _) rfl)) ((HLe.refl _).trans hl5) ?_
          exact congrArg Value.bool (by unfold lightH; rw [all_miss hk2 (dropE hc9) (by simp [lightP]; omega)]; simp)
        · have p16 := df h14
          refine ow1 (op1_g rfl h14 rfl (lo_fieldAddr rfl fl244_3) ?_)
          refine ow1 (op1_g rfl h14 rfl (lo_load1 (i := 0) (v := str _) rfl ag9 rfl rfl) ?_)
          refine ow1 (op1_g rfl h14 rfl (lo_len_str rfl Tryz.underlying9) ?_)
          refine ow1 (op1_g rfl h14 rfl (lo_gtr rfl rfl) ?_)
          refine ow1 (op1_l rfl (lo_pick_f (v := .bool _) rfl h14 rfl) ?_)
          refine ow_nil ?_
          refine seqK_n ?_
          refine cw_cond rfl (fun h17 => ?_) (fun h17 => ?_)
          · have p18 := dt h17
            refine cw_seq ?_
            refine cw_region ?_
            refine ow1 (op1_l rfl (lo_assign (v := .bool _) rfl) ?_)
            refine ow_nil ?_
            refine seqK_n ?_
            refine cw_ret ?_
            refine blkK_r ?_
            refine seqK_r ?_
            refine loopK_r ?_
            refine blkK_r ?_
            refine seqK_r ?_
            refine fnK_r (res1 rfl (rv_t (v := .bool _) rfl)) ((HLe.refl _).trans hl5) ?_
            exact congrArg Value.bool (by unfold lightH; rw [all_miss hk2 (dropE hc9) (by simp [lightP]; omega)]; simp)
          · have p19 := df h17
            refine cw_skip ?_
            refine blkK_n ?_
            refine seqK_n ?_
            refine cw_region ?_
            refine ow1 (op1_l rfl (lo_add rfl rfl (rg_i64 (by omega))) ?_)
            refine ow1 (op1_l rfl (lo_move (v := .int _ _) rfl) ?_)
            refine ow_nil ?_
            refine next1 (k + 1) (upd_intro (mask_intro (by first | exact off_refl | (repeat (first | exact off_mask | refine off_upd rfl ?_ | refine off_mask2 rfl ?_)))) rfl) (lmask_intro (by first | exact offl_refl | (repeat (first | exact offl_mask | refine offl_upd rfl ?_ | refine offl_mask2 rfl ?_)))) hl5 ?_ ?_
            · exact ⟨by omega, all_step hk2 (dropE hc9) (by simp [lightP]; omega)⟩
            · omega
      · have p20 := df h6
        refine cw_exit ?_
        refine seqK_e ?_
        refine loopK_e ?_
        refine blkK_hit ?_
        refine seqK_n ?_
        refine cw_seq ?_
        refine cw_region ?_
        refine ow1 (op1_l rfl (lo_assign (v := .bool _) rfl) ?_)
        refine ow_nil ?_
        refine seqK_n ?_
        refine cw_ret ?_
        refine fnK_r (res1 rfl (rv_t (v := .bool _) rfl)) ((HLe.refl _).trans hl5) ?_
        exact congrArg Value.bool (by unfold lightH; rw [all_end hk2 (by omega)]; simp; omega)

end Go.SW


set_option linter.unusedVariables false
set_option maxRecDepth 100000
set_option maxHeartbeats 4000000
namespace Go.SW
open Go.Proofs

end Go.SW


set_option linter.unusedVariables false
set_option maxRecDepth 100000
set_option maxHeartbeats 4000000
namespace Go.SW
open Go.Proofs
theorem by9 : By Tryz.prog 9 16 := by_of (by kernel_rfl)
theorem zr9 : Zr Tryz.prog 9 [str []] := fun w => ⟨str [], by kernel_rfl, rfl⟩

end Go.SW


set_option linter.unusedVariables false
set_option maxRecDepth 100000
set_option maxHeartbeats 4000000
namespace Go.SW
open Go.Proofs

end Go.SW


set_option linter.unusedVariables false
set_option maxRecDepth 100000
set_option maxHeartbeats 4000000
namespace Go.SW
open Go.Proofs

end Go.SW


set_option linter.unusedVariables false
set_option maxRecDepth 100000
set_option maxHeartbeats 4000000
namespace Go.SW
open Go.Proofs
theorem sz25 : Sz Tryz.prog 25 1 := fun w => by kernel_rfl
end Go.SW


set_option linter.unusedVariables false
set_option maxRecDepth 100000
set_option maxHeartbeats 4000000
namespace Go.SW
open Go.Proofs



end Go.SW


set_option linter.unusedVariables false
set_option maxRecDepth 100000
set_option maxHeartbeats 4000000
namespace Go.SW
open Go.Proofs

end Go.SW


set_option linter.unusedVariables false
set_option maxRecDepth 100000
set_option maxHeartbeats 4000000
namespace Go.SW
open Go.Proofs
theorem words_Pattern (H : Hp) (s : Bs) (hML : GInt H 2) : Pr Tryz.prog 208 #[str s] H (.int .i64 (keyE patB s)) := by
  refine pr_cw Tryz.func208 rfl Tryz.ntmps208 rfl (fun N => ?_)
  refine cw_seq ?_
  refine cw_region ?_
  refine ow1 (op1_l rfl (lo_assign (v := .int _ _) rfl) ?_)
  refine ow_nil ?_
  refine seqK_n ?_
  refine cw_seq ?_
  refine cw_region ?_
  refine ow1 (op1_l rfl (lo_move (v := str _) rfl) ?_)
  refine ow1 (op1_bslice (cs := [_, _]) 0 rfl Tryz.underlying245 sz9 zx9 rfl ⟨rfl, rfl, ⟨rfl, rfl, trivial⟩⟩ rfl rfl (by decide) (fun b1 => ?_))
  refine ow_giveO 0 rfl (fun _ hl2 hg3 => ?_)
  have hs4 := slh_bx (H := _) (enc := (fun s => [str s])) (wf := (fun s => s.length ≤ 9223372036854775807)) [[42], [35]] (fun _ => rfl) (hg3 _ _ rfl) rfl rfl (Nat.le_refl _) (by first | (intro x hx; simp at hx; subst hx; first | omega | (simp; done) | (simp; omega)) | (simp; done) | (simp; omega))
  refine ow1 (op1_pr (words_key _ s (some ⟨b1, 0, none⟩) 2 2 [[42], [35]] hs4 (hML.mono ((HLe.refl _).trans hl2)) (by first | (simp; done) | omega)) (en_f cb234 rfl) rfl ?_)
  refine ow1 (op1_l rfl (lo_assign (v := .int _ _) rfl) ?_)
  refine ow_nil ?_
  refine seqK_n ?_
  refine cw_ret ?_
  refine fnK_r (res1 rfl (rv_t (v := .int _ _) rfl)) ((HLe.refl _).trans hl2) ?_
  rfl

end Go.SW


set_option linter.unusedVariables false
set_option maxRecDepth 100000
set_option maxHeartbeats 4000000
namespace Go.SW
open Go.Proofs
theorem cb208 : Callable Tryz.prog 208 := callable_of Tryz.func208 (by kernel_rfl) (by kernel_rfl)

end Go.SW


set_option linter.unusedVariables false
set_option maxRecDepth 100000
set_option maxHeartbeats 4000000
namespace Go.SW
open Go.Proofs

end Go.SW


set_option linter.unusedVariables false
set_option maxRecDepth 100000
set_option maxHeartbeats 4000000
namespace Go.SW
open Go.Proofs
theorem ag292 : Ag Tryz.prog 292 true := fun w => by kernel_rfl
theorem cb258 : Callable Tryz.prog 258 := callable_of Tryz.func258 (by kernel_rfl) (by kernel_rfl)
theorem fl292_0 : Fld Tryz.prog 292 0 0 := fun b o w => by kernel_rfl
theorem fl292_1 : Fld Tryz.prog 292 1 1 := fun b o w => by kernel_rfl
theorem fl292_2 : Fld Tryz.prog 292 2 2 := fun b o w => by kernel_rfl
theorem fl292_3 : Fld Tryz.prog 292 3 3 := fun b o w => by kernel_rfl
theorem sz292 : Sz Tryz.prog 292 4 := fun w => by kernel_rfl

theorem rule_Check (H : Hp) (r : Rule) (r_want_a : Option Addr) (r_want_c : Nat) (r_want_h : SlH pairE 4 H (.slice r_want_a r.want.length r_want_c) r.want) (r_w : Rule.wf r) (hML : GInt H 2) : Pr Tryz.prog 236 #[.agg (Rule.cells r r_want_a r_want_c).toArray] H (.int .i64 (ruleE r)) := by
  refine pr_cw Tryz.func236 rfl Tryz.ntmps236 rfl (fun N => ?_)
  have r_w' := r_w
  simp only [Rule.wf] at r_w'
  refine cw_seq ?_
  refine cw_region ?_
  refine ow1 (op1_box (cs := [_, _, _, _]) 0 rfl rfl (fun b1 => ?_))
  refine ow1 (op1_l rfl (lo_assign (v := .int _ _) rfl) ?_)
  refine ow_nil ?_
  refine seqK_n ?_
  refine cw_seq ?_
  refine cw_region ?_
  refine ow1 (op1_l rfl (lo_assign (v := .int _ _) rfl) ?_)
  refine ow_nil ?_
  refine seqK_n ?_
  refine cw_seq ?_
  refine cw_block ?_
  refine cw_seq ?_
  refine cw_region ?_
  refine ow1 (op1_l rfl (lo_fieldAddr rfl fl292_0) ?_)
  refine ow1 (op1_l rfl (lo_load1 (i := 0) (v := .int _ _) rfl ag5 rfl rfl) ?_)
  refine ow1 (op1_l rfl (lo_gtr rfl rfl) ?_)
  refine ow1 (op1_l rfl (lo_assign (v := .bool _) rfl) ?_)
  refine ow_nil ?_
  refine seqK_n ?_
  refine cw_cond rfl (fun h2 => ?_) (fun h2 => ?_)
  · have p3 := dt h2
    refine cw_seq ?_
    refine cw_region ?_
    refine ow1 (op1_l rfl (lo_assign (v := .int _ _) rfl) ?_)
    refine ow_nil ?_
    refine seqK_n ?_
    refine cw_ret ?_
    refine blkK_r ?_
    refine seqK_r ?_
    refine fnK_r (res1 rfl (rv_t (v := .int _ _) rfl)) (.refl _) ?_
    refine congrArg (Value.int .i64) ?_
    unfold ruleE
    repeat (first | rw [if_pos (by omega)] | rw [if_neg (by omega)])
  · have p4 := df h2
    refine cw_seq ?_
    refine cw_region ?_
    refine ow1 (op1_l rfl (lo_fieldAddr rfl fl292_0) ?_)
    refine ow1 (op1_l rfl (lo_load1 (i := 0) (v := .int _ _) rfl ag5 rfl rfl) ?_)
    refine ow1 (op1_l rfl (lo_eql rfl rfl) ?_)
    refine ow1 (op1_l rfl (lo_assign (v := .bool _) rfl) ?_)
    refine ow_nil ?_
    refine seqK_n ?_
    refine cw_cond rfl (fun h5 => ?_) (fun h5 => ?_)
    · have p6 := dt h5
      refine cw_region ?_
      refine ow1 (op1_l rfl (lo_fieldAddr rfl fl292_1) ?_)
      refine ow1 (op1_l rfl (lo_load1 (i := 0) (v := str _) rfl ag9 rfl rfl) ?_)
      refine ow1 (op1_pr (words_Key _ r.key hML) (en_f cb202 rfl) rfl ?_)
      refine ow1 (op1_l rfl (lo_assign (v := .int _ _) rfl) ?_)
      refine ow_nil ?_
      refine blkK_n ?_
      refine seqK_n ?_
      refine cw_seq ?_
      refine cw_seq ?_
      refine cw_region ?_
      refine ow1 (op1_l rfl (lo_move (v := .int _ _) rfl) ?_)
      refine ow1 (op1_l rfl (lo_neq rfl rfl) ?_)
      refine ow_nil ?_
      refine seqK_n ?_
      refine cw_cond rfl (fun h7 => ?_) (fun h7 => ?_)
      · have h8 := not_t h7
        have p9 := df h8
        refine cw_seq ?_
        refine cw_region ?_
        refine ow1 (op1_l rfl (lo_move (v := .int _ _) rfl) ?_)
        refine ow1 (op1_l rfl (lo_assign (v := .int _ _) rfl) ?_)
        refine ow_nil ?_
        refine seqK_n ?_
        refine cw_ret ?_
        refine seqK_r ?_
        refine fnK_r (res1 rfl (rv_t (v := .int _ _) rfl)) (.refl _) ?_
        refine congrArg (Value.int .i64) ?_
        unfold ruleE
        repeat (first | rw [if_pos (by omega)] | rw [if_neg (by omega)])
      · have h10 := not_f h7
        have p11 := dt h10
        refine cw_skip ?_
        refine seqK_n ?_
        refine cw_seq ?_
        refine cw_region ?_
        refine ow1 (op1_l rfl (lo_fieldAddr rfl fl292_2) ?_)
        refine ow1 (op1_l rfl (lo_load1 (i := 0) (v := .slice _ _ _) rfl ag26 rfl rfl) ?_)
        refine ow1 (op1_pr (head_Check _ r_want_a r.want.length r_want_c r.want r_want_h (by first | omega | (simp <;> omega))) (en_f cb119 rfl) rfl ?_)
        refine ow1 (op1_l rfl (lo_assign (v := .int _ _) rfl) ?_)
        refine ow_nil ?_
        refine seqK_n ?_
        refine cw_ret ?_
        refine fnK_r (res1 rfl (rv_t (v := .int _ _) rfl)) (.refl _) ?_
        refine congrArg (Value.int .i64) ?_
        unfold ruleE
        repeat (first | rw [if_pos (by omega)] | rw [if_neg (by omega)])
    · have p12 := df h5
      refine cw_region ?_
      refine ow1 (op1_l rfl (lo_fieldAddr rfl fl292_1) ?_)
      refine ow1 (op1_l rfl (lo_load1 (i := 0) (v := str _) rfl ag9 rfl rfl) ?_)
      refine ow1 (op1_pr (words_Pattern _ r.key hML) (en_f cb208 rfl) rfl ?_)
      refine ow1 (op1_l rfl (lo_assign (v := .int _ _) rfl) ?_)
      refine ow_nil ?_
      refine blkK_n ?_
      refine seqK_n ?_
      refine cw_seq ?_
      refine cw_seq ?_
      refine cw_region ?_
      refine ow1 (op1_l rfl (lo_move (v := .int _ _) rfl) ?_)
      refine ow1 (op1_l rfl (lo_neq rfl rfl) ?_)
      refine ow_nil ?_
      refine seqK_n ?_
      refine cw_cond rfl (fun h13 => ?_) (fun h13 => ?_)
      · have h14 := not_t h13
        have p15 := df h14
        refine cw_seq ?_
        refine cw_region ?_
        refine ow1 (op1_l rfl (lo_move (v := .int _ _) rfl) ?_)
        refine ow1 (op1_l rfl (lo_assign (v := .int _ _) rfl) ?_)
        refine ow_nil ?_
        refine seqK_n ?_
        refine cw_ret ?_
        refine seqK_r ?_
        refine fnK_r (res1 rfl (rv_t (v := .int _ _) rfl)) (.refl _) ?_
        refine congrArg (Value.int .i64) ?_
        unfold ruleE
        repeat (first | rw [if_pos (by omega)] | rw [if_neg (by omega)])
      · have h16 := not_f h13
        have p17 := dt h16
        refine cw_skip ?_
        refine seqK_n ?_
        refine cw_seq ?_
        refine cw_region ?_
        refine ow1 (op1_l rfl (lo_fieldAddr rfl fl292_2) ?_)
        refine ow1 (op1_l rfl (lo_load1 (i := 0) (v := .slice _ _ _) rfl ag26 rfl rfl) ?_)
        refine ow1 (op1_pr (head_Check _ r_want_a r.want.length r_want_c r.want r_want_h (by first | omega | (simp <;> omega))) (en_f cb119 rfl) rfl ?_)
        refine ow1 (op1_l rfl (lo_assign (v := .int _ _) rfl) ?_)
        refine ow_nil ?_
        refine seqK_n ?_
        refine cw_ret ?_
        refine fnK_r (res1 rfl (rv_t (v := .int _ _) rfl)) (.refl _) ?_
        refine congrArg (Value.int .i64) ?_
        unfold ruleE
        repeat (first | rw [if_pos (by omega)] | rw [if_neg (by omega)])

theorem rule_heads (H : Hp) (r : Rule) (r_want_a : Option Addr) (r_want_c : Nat) (r_want_h : SlH pairE 4 H (.slice r_want_a r.want.length r_want_c) r.want) (r_w : Rule.wf r) (h_a : Option Addr) (h_l h_c : Nat) (h : List Pair) (h_h : SlH pairE 4 H (.slice h_a h_l h_c) h) (hl : h.length ≤ 9223372036854775807) : Pr Tryz.prog 258 #[.agg (Rule.cells r r_want_a r_want_c).toArray, .slice h_a h_l h_c] H (.bool (headsGo r.all h r.want)) := by
  refine pr_cw Tryz.func258 rfl Tryz.ntmps258 rfl (fun N => ?_)
  have r_w' := r_w
  simp only [Rule.wf] at r_w'
  refine cw_seq ?_
  refine cw_region ?_
  refine ow1 (op1_box (cs := [_, _, _, _]) 0 rfl rfl (fun b1 => ?_))
  refine ow1 (op1_l rfl (lo_assign (v := .bool _) rfl) ?_)
  refine ow_nil ?_
  refine seqK_n ?_
  refine cw_scope ?_
  refine cw_seq ?_
  refine cw_label ?_
  refine seqK_n ?_
  refine cw_seq ?_
  refine cw_seq ?_
  refine cw_region ?_
  refine ow1 (op1_l rfl (lo_fieldAddr rfl fl292_2) ?_)
  refine ow1 (op1_l rfl (lo_load1 (i := 0) (v := .slice _ _ _) rfl ag26 rfl rfl) ?_)
  refine ow1 (op1_l rfl (lo_len_slh rfl r_want_h Tryz.underlying26) ?_)
  refine ow1 (op1_l rfl (lo_move (v := .int _ _) rfl) ?_)
  refine ow_nil ?_
  refine seqK_n ?_
  refine cw_block ?_
  refine cw_loop1 [4, 6, 7, 8, 9, 13, 14, 15, 16, 17, 18, 19, 20, 21, 22, 23, 24, 25, 26, 27, 28, 29, 30, 31, 32, 33, 34, 35, 36, 37, 38, 39, 40, 41] [1, 2] (fun (k : Nat) G => upd (G) 13 (.int .i64 (k : Int))) (fun (k : Nat) G => G) (fun (k : Nat) H' => k ≤ r.want.length ∧ headsGo r.all h r.want = headsGo r.all h (r.want.drop k)) (fun (k : Nat) => r.want.length - k) 0 (upd_intro (mask_intro (by first | exact off_refl | (repeat (first | exact off_mask | refine off_upd rfl ?_ | refine off_mask2 rfl ?_)))) rfl) (lmask_intro offl_refl) ?_ ?_
  · exact ⟨Nat.zero_le _, rfl⟩
  · intro k J3 JL3 H3 hp2 hl3
    obtain ⟨hk1, hk2⟩ := hp2
    refine cw_seq ?_
    refine cw_region ?_
    refine ow1 (op1_l rfl (lo_lss rfl rfl) ?_)
    refine ow_nil ?_
    refine seqK_n ?_
    refine cw_seq ?_
    refine cw_cond rfl (fun h4 => ?_) (fun h4 => ?_)
    · have p5 := dt h4
      refine cw_skip ?_
      refine seqK_n ?_
      refine cw_seq ?_
      refine cw_block ?_
      refine cw_seq ?_
      refine cw_region ?_
      obtain ⟨c6, hc7⟩ := getE (xs := r.want) (m := k) (by omega)
      obtain ⟨cs8, hE9, at10⟩ := (r_want_h.mono ((HLe.refl _).trans hl3) (fun _ _ h => h)).get hc7
      obtain ⟨rfl, c6_w⟩ := hE9
      have c6_w' := c6_w
      simp only [Pair.wf] at c6_w'
      refine ow1 (op1_l rfl (lo_indexAddr rfl rfl (r_want_h.mono ((HLe.refl _).trans hl3) (fun _ _ h => h)).1 at10 Tryz.underlying26 sz244 (by omega) (by omega)) ?_)
      refine ow1 (op1_l rfl (lo_loadEA rfl ag244 sz244 at10) ?_)
      refine ow1 (op1_alloc 1 rfl zr244 (fun b11 => ?_))
      refine ow1 (op1_storeAn (i := 1) (vs := [_, _, _, _]) [_, _, _, _] rfl rfl rfl sz244 rfl rfl rfl rfl ?_)
      refine ow_nil ?_
      refine seqK_n ?_
      refine cw_seq ?_
      refine cw_region ?_
      refine ow1 (op1_l rfl (lo_move (v := .slice _ _ _) rfl) ?_)
      refine ow1 (op1_l rfl (lo_fieldAddr rfl fl244_0) ?_)
      refine ow1 (op1_l rfl (lo_load1 (i := 1) (v := str _) rfl ag9 rfl rfl) ?_)
      refine ow1 (op1_pr (head_Find _ h_a h_l h_c h (h_h.mono ((HLe.refl _).trans hl3) (fun _ _ h => h)) c6.key (by first | omega | (simp <;> omega))) (en_f cb233 rfl) rfl ?_)
      refine ow1 (op1_l rfl (lo_move (v := .tuple #[_, _]) rfl) ?_)
      refine ow1 (op1_l rfl (lo_extract (v := .agg #[_, _, _, _]) rfl rfl) ?_)
      refine ow1 (op1_l rfl (lo_extract (v := .bool _) rfl rfl) ?_)
      refine ow1 (op1_alloc 2 rfl zr244 (fun b12 => ?_))
      refine ow1 (op1_storeAn (i := 2) (vs := [_, _, _, _]) [_, _, _, _] rfl rfl rfl sz244 rfl rfl rfl rfl ?_)
      refine ow1 (op1_l rfl (lo_assign (v := .bool _) rfl) ?_)
      refine ow_nil ?_
      refine seqK_n ?_
      refine cw_seq ?_
      refine cw_region ?_
      refine ow1 (op1_l rfl (lo_move (v := .bool _) rfl) ?_)
      refine ow1 (op1_l rfl (lo_move (v := .bool _) rfl) ?_)
      refine ow_sp (j := 1) rfl (fun h13 => ?_) (fun h13 => ?_)
      · refine ow1 (op1_g rfl h13 rfl (lo_loadA (i := 2) (vs := [_, _, _, _]) rfl ag244 sz244 rfl rfl rfl) ?_)
        refine ow1 (op1_g rfl h13 rfl (lo_loadA (i := 1) (vs := [_, _, _, _]) rfl ag244 sz244 rfl rfl rfl) ?_)
        refine ow1 (op1_g rfl h13 rfl (lo_aeql (u := (Pair.cells ((findP h c6.key).getD Pair.zero)).toArray) (v := (Pair.cells c6).toArray) rfl rfl eqg244 (eqr244 _ _ 9998)) ?_)
        refine ow1 (op1_l rfl (lo_pick_t (v := .bool _) rfl h13 rfl) ?_)
        refine ow1 (op1_l rfl (lo_assign (v := .bool _) rfl) ?_)
        refine ow_nil ?_
        refine seqK_n ?_
        refine cw_block ?_
        refine cw_seq ?_
        refine cw_region ?_
        refine ow1 (op1_l rfl (lo_move (v := .bool _) rfl) ?_)
        refine ow1 (op1_l rfl (lo_move (v := .bool _) rfl) ?_)
        refine ow_sp (j := 1) rfl (fun h14 => ?_) (fun h14 => ?_)
        · have p15 := dt h14
          refine ow1 (op1_g rfl h14 rfl (lo_fieldAddr rfl fl292_3) ?_)
          refine ow1 (op1_g rfl h14 rfl (lo_load1 (i := 0) (v := .bool _) rfl ag4 rfl rfl) ?_)
          refine ow1 (op1_l rfl (lo_pick_t (v := .bool _) rfl h14 rfl) ?_)
          refine ow1 (op1_l rfl (lo_assign (v := .bool _) rfl) ?_)
          refine ow_nil ?_
          refine seqK_n ?_
          refine cw_cond rfl (fun h16 => ?_) (fun h16 => ?_)
          · refine cw_exit ?_
            refine blkK_e rfl ?_
            refine blkK_hit ?_
            refine seqK_n ?_
            refine cw_region ?_
            refine ow1 (op1_l rfl (lo_add rfl rfl (rg_i64 (by omega))) ?_)
            refine ow1 (op1_l rfl (lo_move (v := .int _ _) rfl) ?_)
            refine ow_nil ?_
            refine next1 (k + 1) (upd_intro (mask_intro (by first | exact off_refl | (repeat (first | exact off_mask | refine off_upd rfl ?_ | refine off_mask2 rfl ?_)))) rfl) (lmask_intro (by first | exact offl_refl | (repeat (first | exact offl_mask | refine offl_upd rfl ?_ | refine offl_mask2 rfl ?_)))) hl3 ?_ ?_
            · refine ⟨by omega, ?_⟩
              rw [hk2, dropE hc7]
              simp only [headsGo, hasP, h4, h13, h14, h16, Bool.or_false, Bool.true_or, Bool.or_true, Bool.false_or, Bool.not_true, Bool.not_false, Bool.and_true, Bool.true_and, Bool.false_and, Bool.and_false, if_true, if_false, Bool.false_eq_true, Bool.true_eq_false, decide_true, decide_false]
            · omega
          · refine cw_seq ?_
            refine cw_region ?_
            refine ow1 (op1_l rfl (lo_move (v := .bool _) rfl) ?_)
            refine ow1 (op1_l rfl (lo_assign (v := .bool _) rfl) ?_)
            refine ow_nil ?_
            refine seqK_n ?_
            refine cw_cond_t rfl h14 ?_
            refine cw_seq ?_
            refine cw_region ?_
            refine ow1 (op1_l rfl (lo_assign (v := .bool _) rfl) ?_)
            refine ow_nil ?_
            refine seqK_n ?_
            refine cw_ret ?_
            refine blkK_r ?_
            refine blkK_r ?_
            refine seqK_r ?_
            refine loopK_r ?_
            refine blkK_r ?_
            refine seqK_r ?_
            refine scK_r ?_
            refine fnK_r (res1 rfl (rv_t (v := .bool _) rfl)) ((HLe.refl _).trans hl3) ?_
            refine congrArg Value.bool ?_
            rw [hk2, dropE hc7]
            simp only [headsGo, hasP, h4, h13, h14, h16, Bool.or_false, Bool.true_or, Bool.or_true, Bool.false_or, Bool.not_true, Bool.not_false, Bool.and_true, Bool.true_and, Bool.false_and, Bool.and_false, if_true, if_false, Bool.false_eq_true, Bool.true_eq_false, decide_true, decide_false]
        · have p17 := df h14
          refine ow1 (op1_gs rfl h14 rfl ?_)
          refine ow1 (op1_gs rfl h14 rfl ?_)
          refine ow1 (op1_l rfl (lo_pick_f (v := .bool _) rfl h14 rfl) ?_)
          refine ow1 (op1_l rfl (lo_assign (v := .bool _) rfl) ?_)
          refine ow_nil ?_
          refine seqK_n ?_
          refine cw_cond_f rfl rfl ?_
          refine cw_seq ?_
          refine cw_region ?_
          refine ow1 (op1_l rfl (lo_move (v := .bool _) rfl) ?_)
          refine ow1 (op1_l rfl (lo_assign (v := .bool _) rfl) ?_)
          refine ow_nil ?_
          refine seqK_n ?_
          refine cw_cond_f rfl h14 ?_
          refine cw_seq ?_
          refine cw_region ?_
          refine ow1 (op1_l rfl (lo_fieldAddr rfl fl292_3) ?_)
          refine ow1 (op1_l rfl (lo_load1 (i := 0) (v := .bool _) rfl ag4 rfl rfl) ?_)
          refine ow1 (op1_l rfl (lo_assign (v := .bool _) rfl) ?_)
          refine ow_nil ?_
          refine seqK_n ?_
          refine cw_cond rfl (fun h18 => ?_) (fun h18 => ?_)
          · refine cw_seq ?_
            refine cw_region ?_
            refine ow1 (op1_l rfl (lo_assign (v := .bool _) rfl) ?_)
            refine ow_nil ?_
            refine seqK_n ?_
            refine cw_ret ?_
            refine blkK_r ?_
            refine blkK_r ?_
            refine seqK_r ?_
            refine loopK_r ?_
            refine blkK_r ?_
            refine seqK_r ?_
            refine scK_r ?_
            refine fnK_r (res1 rfl (rv_t (v := .bool _) rfl)) ((HLe.refl _).trans hl3) ?_
            refine congrArg Value.bool ?_
            rw [hk2, dropE hc7]
            simp only [headsGo, hasP, h4, h13, h14, h18, Bool.or_false, Bool.true_or, Bool.or_true, Bool.false_or, Bool.not_true, Bool.not_false, Bool.and_true, Bool.true_and, Bool.false_and, Bool.and_false, if_true, if_false, Bool.false_eq_true, Bool.true_eq_false, decide_true, decide_false]
          · refine cw_skip ?_
            refine blkK_n ?_
            refine blkK_n ?_
            refine seqK_n ?_
            refine cw_region ?_
            refine ow1 (op1_l rfl (lo_add rfl rfl (rg_i64 (by omega))) ?_)
            refine ow1 (op1_l rfl (lo_move (v := .int _ _) rfl) ?_)
            refine ow_nil ?_
            refine next1 (k + 1) (upd_intro (mask_intro (by first | exact off_refl | (repeat (first | exact off_mask | refine off_upd rfl ?_ | refine off_mask2 rfl ?_)))) rfl) (lmask_intro (by first | exact offl_refl | (repeat (first | exact offl_mask | refine offl_upd rfl ?_ | refine offl_mask2 rfl ?_)))) hl3 ?_ ?_
            · refine ⟨by omega, ?_⟩
              rw [hk2, dropE hc7]
              simp only [headsGo, hasP, h4, h13, h14, h18, Bool.or_false, Bool.true_or, Bool.or_true, Bool.false_or, Bool.not_true, Bool.not_false, Bool.and_true, Bool.true_and, Bool.false_and, Bool.and_false, if_true, if_false, Bool.false_eq_true, Bool.true_eq_false, decide_true, decide_false]
            · omega
      · refine ow1 (op1_gs rfl h13 rfl ?_)
        refine ow1 (op1_gs rfl h13 rfl ?_)
        refine ow1 (op1_gs rfl h13 rfl ?_)
        refine ow1 (op1_l rfl (lo_pick_f (v := .bool _) rfl h13 rfl) ?_)
        refine ow1 (op1_l rfl (lo_assign (v := .bool _) rfl) ?_)
        refine ow_nil ?_
        refine seqK_n ?_
        refine cw_block ?_
        refine cw_seq ?_
        refine cw_region ?_
        refine ow1 (op1_l rfl (lo_move (v := .bool _) rfl) ?_)
        refine ow1 (op1_l rfl (lo_move (v := .bool _) rfl) ?_)
        refine ow1 (op1_gs rfl rfl rfl ?_)
        refine ow1 (op1_gs rfl rfl rfl ?_)
        refine ow1 (op1_l rfl (lo_pick_f (v := .bool _) rfl rfl rfl) ?_)
        refine ow1 (op1_l rfl (lo_assign (v := .bool _) rfl) ?_)
        refine ow_nil ?_
        refine seqK_n ?_
        refine cw_cond_f rfl rfl ?_
        refine cw_seq ?_
        refine cw_region ?_
        refine ow1 (op1_l rfl (lo_move (v := .bool _) rfl) ?_)
        refine ow1 (op1_l rfl (lo_assign (v := .bool _) rfl) ?_)
        refine ow_nil ?_
        refine seqK_n ?_
        refine cw_cond_f rfl rfl ?_
        refine cw_seq ?_
        refine cw_region ?_
        refine ow1 (op1_l rfl (lo_fieldAddr rfl fl292_3) ?_)
        refine ow1 (op1_l rfl (lo_load1 (i := 0) (v := .bool _) rfl ag4 rfl rfl) ?_)
        refine ow1 (op1_l rfl (lo_assign (v := .bool _) rfl) ?_)
        refine ow_nil ?_
        refine seqK_n ?_
        refine cw_cond rfl (fun h19 => ?_) (fun h19 => ?_)
        · refine cw_seq ?_
          refine cw_region ?_
          refine ow1 (op1_l rfl (lo_assign (v := .bool _) rfl) ?_)
          refine ow_nil ?_
          refine seqK_n ?_
          refine cw_ret ?_
          refine blkK_r ?_
          refine blkK_r ?_
          refine seqK_r ?_
          refine loopK_r ?_
          refine blkK_r ?_
          refine seqK_r ?_
          refine scK_r ?_
          refine fnK_r (res1 rfl (rv_t (v := .bool _) rfl)) ((HLe.refl _).trans hl3) ?_
          refine congrArg Value.bool ?_
          rw [hk2, dropE hc7]
          simp only [headsGo, hasP, h4, h13, h19, Bool.or_false, Bool.true_or, Bool.or_true, Bool.false_or, Bool.not_true, Bool.not_false, Bool.and_true, Bool.true_and, Bool.false_and, Bool.and_false, if_true, if_false, Bool.false_eq_true, Bool.true_eq_false, decide_true, decide_false]
        · refine cw_skip ?_
          refine blkK_n ?_
          refine blkK_n ?_
          refine seqK_n ?_
          refine cw_region ?_
          refine ow1 (op1_l rfl (lo_add rfl rfl (rg_i64 (by omega))) ?_)
          refine ow1 (op1_l rfl (lo_move (v := .int _ _) rfl) ?_)
          refine ow_nil ?_
          refine next1 (k + 1) (upd_intro (mask_intro (by first | exact off_refl | (repeat (first | exact off_mask | refine off_upd rfl ?_ | refine off_mask2 rfl ?_)))) rfl) (lmask_intro (by first | exact offl_refl | (repeat (first | exact offl_mask | refine offl_upd rfl ?_ | refine offl_mask2 rfl ?_)))) hl3 ?_ ?_
          · refine ⟨by omega, ?_⟩
            rw [hk2, dropE hc7]
            simp only [headsGo, hasP, h4, h13, h19, Bool.or_false, Bool.true_or, Bool.or_true, Bool.false_or, Bool.not_true, Bool.not_false, Bool.and_true, Bool.true_and, Bool.false_and, Bool.and_false, if_true, if_false, Bool.false_eq_true, Bool.true_eq_false, decide_true, decide_false]
          · omega
    · have p20 := df h4
      refine cw_exit ?_
      refine seqK_e ?_
      refine loopK_e ?_
      refine blkK_hit ?_
      refine seqK_n ?_
      refine cw_seq ?_
      refine cw_region ?_
      refine ow1 (op1_l rfl (lo_fieldAddr rfl fl292_3) ?_)
      refine ow1 (op1_l rfl (lo_load1 (i := 0) (v := .bool _) rfl ag4 rfl rfl) ?_)
      refine ow1 (op1_l rfl (lo_assign (v := .bool _) rfl) ?_)
      refine ow_nil ?_
      refine seqK_n ?_
      refine cw_ret ?_
      refine scK_r ?_
      refine fnK_r (res1 rfl (rv_t (v := .bool _) rfl)) ((HLe.refl _).trans hl3) ?_
      refine congrArg Value.bool ?_
      rw [hk2, List.drop_of_length_le (by omega)]
      rfl

theorem rule_Goes (H : Hp) (r : Rule) (r_want_a : Option Addr) (r_want_c : Nat) (r_want_h : SlH pairE 4 H (.slice r_want_a r.want.length r_want_c) r.want) (r_w : Rule.wf r) (key : Bs) (h_a : Option Addr) (h_l h_c : Nat) (h : List Pair) (h_h : SlH pairE 4 H (.slice h_a h_l h_c) h) (hML : GInt H 2) (hrk : r.key.length < 4294967281) (hk : key.length < 4294967281) (hl : h.length ≤ 9223372036854775807) : Pr Tryz.prog 237 #[.agg (Rule.cells r r_want_a r_want_c).toArray, str key, .slice h_a h_l h_c] H (.bool (goesR r key h)) := by
  refine pr_cw Tryz.func237 rfl Tryz.ntmps237 rfl (fun N => ?_)
  have r_w' := r_w
  simp only [Rule.wf] at r_w'
  refine cw_seq ?_
  refine cw_region ?_
  refine ow1 (op1_box (cs := [_, _, _, _]) 0 rfl rfl (fun b1 => ?_))
  refine ow1 (op1_l rfl (lo_assign (v := .bool _) rfl) ?_)
  refine ow_nil ?_
  refine seqK_n ?_
  refine cw_seq ?_
  refine cw_seq ?_
  refine cw_region ?_
  refine ow1 (op1_l rfl (lo_fieldAddr rfl fl292_0) ?_)
  refine ow1 (op1_l rfl (lo_load1 (i := 0) (v := .int _ _) rfl ag5 rfl rfl) ?_)
  refine ow_nil ?_
  refine seqK_n ?_
  refine cw_block ?_
  refine cw_seq ?_
  refine cw_region ?_
  refine ow1 (op1_l rfl (lo_eql rfl rfl) ?_)
  refine ow1 (op1_l rfl (lo_assign (v := .bool _) rfl) ?_)
  refine ow_nil ?_
  refine seqK_n ?_
  refine cw_cond rfl (fun h2 => ?_) (fun h2 => ?_)
  · have p3 := dt h2
    refine cw_seq ?_
    refine cw_region ?_
    refine ow1 (op1_l rfl (lo_move (v := str _) rfl) ?_)
    refine ow1 (op1_l rfl (lo_fieldAddr rfl fl292_1) ?_)
    refine ow1 (op1_l rfl (lo_load1 (i := 0) (v := str _) rfl ag9 rfl rfl) ?_)
    refine ow1 (op1_l rfl (lo_seql rfl rfl) ?_)
    refine ow1 (op1_l rfl (lo_assign (v := .bool _) rfl) ?_)
    refine ow_nil ?_
    refine seqK_n ?_
    refine cw_ret ?_
    refine blkK_r ?_
    refine seqK_r ?_
    refine fnK_r (res1 rfl (rv_t (v := .bool _) rfl)) (.refl _) ?_
    first | (simp [goesR, *]; done) | (simp [goesR, *]; omega)
  · have p4 := df h2
    refine cw_seq ?_
    refine cw_region ?_
    refine ow1 (op1_l rfl (lo_eql rfl rfl) ?_)
    refine ow1 (op1_l rfl (lo_assign (v := .bool _) rfl) ?_)
    refine ow_nil ?_
    refine seqK_n ?_
    refine cw_cond rfl (fun h5 => ?_) (fun h5 => ?_)
    · have p6 := dt h5
      refine cw_seq ?_
      refine cw_region ?_
      refine ow1 (op1_l rfl (lo_fieldAddr rfl fl292_1) ?_)
      refine ow1 (op1_l rfl (lo_load1 (i := 0) (v := str _) rfl ag9 rfl rfl) ?_)
      refine ow1 (op1_l rfl (lo_move (v := str _) rfl) ?_)
      refine ow1 (op1_pr (words_Matches _ r.key key hML (by first | omega | (simp; done) | decide) (by first | omega | (simp; done) | decide)) (en_f cb257 rfl) rfl ?_)
      refine ow1 (op1_l rfl (lo_assign (v := .bool _) rfl) ?_)
      refine ow_nil ?_
      refine seqK_n ?_
      refine cw_ret ?_
      refine blkK_r ?_
      refine seqK_r ?_
      refine fnK_r (res1 rfl (rv_t (v := .bool _) rfl)) (.refl _) ?_
      first | (simp [goesR, *]; done) | (simp [goesR, *]; omega)
    · have p7 := df h5
      refine cw_seq ?_
      refine cw_region ?_
      refine ow1 (op1_l rfl (lo_eql rfl rfl) ?_)
      refine ow1 (op1_l rfl (lo_assign (v := .bool _) rfl) ?_)
      refine ow_nil ?_
      refine seqK_n ?_
      refine cw_cond rfl (fun h8 => ?_) (fun h8 => ?_)
      · have p9 := dt h8
        refine cw_seq ?_
        refine cw_region ?_
        refine ow1 (op1_l rfl (lo_loadA (i := 0) (vs := [_, _, _, _]) rfl ag292 sz292 rfl rfl rfl) ?_)
        refine ow1 (op1_l rfl (lo_move (v := .slice _ _ _) rfl) ?_)
        refine ow1 (op1_pr (rule_heads _ r r_want_a r_want_c r_want_h r_w h_a h_l h_c h h_h (by first | omega | (simp <;> omega))) (en_f cb258 rfl) rfl ?_)
        refine ow1 (op1_l rfl (lo_assign (v := .bool _) rfl) ?_)
        refine ow_nil ?_
        refine seqK_n ?_
        refine cw_ret ?_
        refine blkK_r ?_
        refine seqK_r ?_
        refine fnK_r (res1 rfl (rv_t (v := .bool _) rfl)) (.refl _) ?_
        first | (simp [goesR, *]; done) | (simp [goesR, *]; omega)
      · have p10 := df h8
        refine cw_skip ?_
        refine blkK_n ?_
        refine seqK_n ?_
        refine cw_seq ?_
        refine cw_region ?_
        refine ow1 (op1_l rfl (lo_assign (v := .bool _) rfl) ?_)
        refine ow_nil ?_
        refine seqK_n ?_
        refine cw_ret ?_
        refine fnK_r (res1 rfl (rv_t (v := .bool _) rfl)) (.refl _) ?_
        first | (simp [goesR, *]; done) | (simp [goesR, *]; omega)

end Go.SW


set_option linter.unusedVariables false
set_option maxRecDepth 100000
set_option maxHeartbeats 4000000
namespace Go.SW
open Go.Proofs
theorem bd292_0u8_1s (a1 : Int) (a2 : Bs) (w : World) : (Instr.build 292 #[(0, .int .u8 a1), (1, str a2)]).run Tryz.prog w = .ok (.agg #[.int .u8 a1, str a2, .slice none 0 0, .bool false]) w := by kernel_rfl
theorem cb134 : Callable Tryz.prog 134 := callable_of Tryz.func134 (by kernel_rfl) (by kernel_rfl)
theorem cb205 : Callable Tryz.prog 205 := callable_of Tryz.func205 (by kernel_rfl) (by kernel_rfl)
theorem cb236 : Callable Tryz.prog 236 := callable_of Tryz.func236 (by kernel_rfl) (by kernel_rfl)
theorem cb237 : Callable Tryz.prog 237 := callable_of Tryz.func237 (by kernel_rfl) (by kernel_rfl)
theorem zr292 : Zr Tryz.prog 292 [.int .u8 0, str [], .slice none 0 0, .bool false] := fun w => ⟨.agg #[.int .u8 0, str [], .slice none 0 0, .bool false], by kernel_rfl, rfl⟩

theorem l10_awake (H : Hp)  (hML : GInt H 2) : Pr Tryz.prog 205 #[] H (.bool true) := by
  refine pr_cw Tryz.func205 rfl Tryz.ntmps205 rfl (fun N => ?_)
  refine cw_seq ?_
  refine cw_region ?_
  refine ow1 (op1_l rfl (lo_assign (v := .bool _) rfl) ?_)
  refine ow_nil ?_
  refine seqK_n ?_
  refine cw_seq ?_
  refine cw_region ?_
  refine ow1 (op1_l rfl (lo_build (v := .agg #[_, _, _, _]) rfl (bd292_0u8_1s _ _)) ?_)
  refine ow1 (op1_alloc 0 rfl zr292 (fun b1 => ?_))
  refine ow1 (op1_storeAn (i := 0) (vs := [_, _, _, _]) [_, _, _, _] rfl rfl rfl sz292 rfl rfl rfl rfl ?_)
  refine ow_nil ?_
  refine seqK_n ?_
  refine cw_seq ?_
  refine cw_region ?_
  refine ow1 (op1_pr (l04_Awake _ hML) (en_f cb223 rfl) rfl ?_)
  refine ow1 (op1_l rfl (lo_move (v := .bool _) rfl) ?_)
  refine ow1 (op1_prg rfl rfl (l09_Awake _ hML) (en_f cb82 rfl) rfl ?_)
  refine ow1 (op1_l rfl (lo_pick_t (v := .bool _) rfl rfl rfl) ?_)
  refine ow1 (op1_l rfl (lo_move (v := .bool _) rfl) ?_)
  refine ow1 (op1_g rfl rfl rfl (lo_loadA (i := 0) (vs := [_, _, _, _]) rfl ag292 sz292 rfl rfl rfl) ?_)
  refine ow1 (op1_prg rfl rfl (rule_Check _ (⟨2, [97, 46, 35], [], false⟩ : Rule) none 0 slh_nil (by simp only [Rule.wf]; first | omega | (simp; done) | (simp; omega)) hML) (en_f cb236 rfl) rfl ?_)
  refine ow1 (op1_g rfl rfl rfl (lo_eql rfl rfl) ?_)
  refine ow1 (op1_l rfl (lo_pick_t (v := .bool _) rfl rfl rfl) ?_)
  refine ow1 (op1_l rfl (lo_move (v := .bool _) rfl) ?_)
  refine ow1 (op1_g rfl (by decide +kernel) rfl (lo_loadA (i := 0) (vs := [_, _, _, _]) rfl ag292 sz292 rfl rfl rfl) ?_)
  refine ow1 (op1_prg rfl (by decide +kernel) (rule_Goes _ (⟨2, [97, 46, 35], [], false⟩ : Rule) none 0 slh_nil (by simp only [Rule.wf]; first | omega | (simp; done) | (simp; omega)) [97, 46, 98] none 0 0 [] slh_nil hML (by first | omega | (simp; done) | decide) (by first | omega | (simp; done) | decide) (by first | omega | (simp <;> omega))) (en_f cb237 rfl) rfl ?_)
  refine ow1 (op1_l rfl (lo_pick_t (v := .bool _) rfl (by decide +kernel) rfl) ?_)
  refine ow1 (op1_l rfl (lo_move (v := .bool _) rfl) ?_)
  refine ow1 (op1_g rfl (by decide +kernel) rfl (lo_loadA (i := 0) (vs := [_, _, _, _]) rfl ag292 sz292 rfl rfl rfl) ?_)
  refine ow1 (op1_prg rfl (by decide +kernel) (rule_Goes _ (⟨2, [97, 46, 35], [], false⟩ : Rule) none 0 slh_nil (by simp only [Rule.wf]; first | omega | (simp; done) | (simp; omega)) [98] none 0 0 [] slh_nil hML (by first | omega | (simp; done) | decide) (by first | omega | (simp; done) | decide) (by first | omega | (simp <;> omega))) (en_f cb237 rfl) rfl ?_)
  refine ow1 (op1_g rfl (by decide +kernel) rfl (lo_not rfl) ?_)
  refine ow1 (op1_l rfl (lo_pick_t (v := .bool _) rfl (by decide +kernel) rfl) ?_)
  refine ow1 (op1_l rfl (lo_assign (v := .bool _) rfl) ?_)
  refine ow_nil ?_
  refine seqK_n ?_
  refine cw_ret ?_
  refine fnK_r (res1 rfl (rv_t (v := .bool _) rfl)) (.refl _) ?_
  exact congrArg Value.bool (by decide +kernel)

theorem l10_Awake (H : Hp)  (hML : GInt H 2) : Pr Tryz.prog 134 #[] H (.bool true) := by
  refine pr_cw Tryz.func134 rfl Tryz.ntmps134 rfl (fun N => ?_)
  refine cw_seq ?_
  refine cw_region ?_
  refine ow1 (op1_l rfl (lo_assign (v := .bool _) rfl) ?_)
  refine ow_nil ?_
  refine seqK_n ?_
  refine cw_seq ?_
  refine cw_region ?_
  refine ow1 (op1_pr (l10_awake _ hML) (en_f cb205 rfl) rfl ?_)
  refine ow1 (op1_l rfl (lo_assign (v := .bool _) rfl) ?_)
  refine ow_nil ?_
  refine seqK_n ?_
  refine cw_ret ?_
  refine fnK_r (res1 rfl (rv_t (v := .bool _) rfl)) (.refl _) ?_
  rfl

end Go.SW


set_option linter.unusedVariables false
set_option maxRecDepth 100000
set_option maxHeartbeats 4000000
namespace Go.SW
open Go.Proofs
theorem cb142 : Callable Tryz.prog 142 := callable_of Tryz.func142 (by kernel_rfl) (by kernel_rfl)
theorem match_Same (H : Hp) (a : Rule) (a_want_a : Option Addr) (a_want_c : Nat) (a_want_h : SlH pairE 4 H (.slice a_want_a a.want.length a_want_c) a.want) (a_w : Rule.wf a) (b : Rule) (b_want_a : Option Addr) (b_want_c : Nat) (b_want_h : SlH pairE 4 H (.slice b_want_a b.want.length b_want_c) b.want) (b_w : Rule.wf b) : Pr Tryz.prog 270 #[.agg (Rule.cells a a_want_a a_want_c).toArray, .agg (Rule.cells b b_want_a b_want_c).toArray] H (.bool (decide (a = b))) := by
  refine pr_cw Tryz.func270 rfl Tryz.ntmps270 rfl (fun N => ?_)
  have a_w' := a_w
  simp only [Rule.wf] at a_w'
  have b_w' := b_w
  simp only [Rule.wf] at b_w'
  refine cw_seq ?_
  refine cw_region ?_
  refine ow1 (op1_box (cs := [_, _, _, _]) 0 rfl rfl (fun b1 => ?_))
  refine ow1 (op1_box (cs := [_, _, _, _]) 1 rfl rfl (fun b2 => ?_))
  refine ow1 (op1_l rfl (lo_assign (v := .bool _) rfl) ?_)
  refine ow_nil ?_
  refine seqK_n ?_
  refine cw_seq ?_
  refine cw_region ?_
  refine ow1 (op1_l rfl (lo_fieldAddr rfl fl292_0) ?_)
  refine ow1 (op1_l rfl (lo_load1 (i := 0) (v := .int _ _) rfl ag5 rfl rfl) ?_)
  refine ow1 (op1_l rfl (lo_fieldAddr rfl fl292_0) ?_)
  refine ow1 (op1_l rfl (lo_load1 (i := 1) (v := .int _ _) rfl ag5 rfl rfl) ?_)
  refine ow1 (op1_l rfl (lo_eql rfl rfl) ?_)
  refine ow1 (op1_l rfl (lo_move (v := .bool _) rfl) ?_)
  refine ow_sp (j := 5) rfl (fun h3 => ?_) (fun h3 => ?_)
  · have p4 := dt h3
    refine ow1 (op1_g rfl h3 rfl (lo_fieldAddr rfl fl292_1) ?_)
    refine ow1 (op1_g rfl h3 rfl (lo_load1 (i := 0) (v := str _) rfl ag9 rfl rfl) ?_)
    refine ow1 (op1_g rfl h3 rfl (lo_fieldAddr rfl fl292_1) ?_)
    refine ow1 (op1_g rfl h3 rfl (lo_load1 (i := 1) (v := str _) rfl ag9 rfl rfl) ?_)
    refine ow1 (op1_g rfl h3 rfl (lo_seql rfl rfl) ?_)
    refine ow1 (op1_l rfl (lo_pick_t (v := .bool _) rfl h3 rfl) ?_)
    refine ow1 (op1_l rfl (lo_move (v := .bool _) rfl) ?_)
    refine ow_sp (j := 12) rfl (fun h5 => ?_) (fun h5 => ?_)
    · have p6 := dt h5
      refine ow1 (op1_g rfl h5 rfl (lo_fieldAddr rfl fl292_3) ?_)
      refine ow1 (op1_g rfl h5 rfl (lo_load1 (i := 0) (v := .bool _) rfl ag4 rfl rfl) ?_)
      refine ow1 (op1_g rfl h5 rfl (lo_fieldAddr rfl fl292_3) ?_)
      refine ow1 (op1_g rfl h5 rfl (lo_load1 (i := 1) (v := .bool _) rfl ag4 rfl rfl) ?_)
      refine ow1 (op1_g rfl h5 rfl (lo_beql rfl rfl Tryz.underlying4) ?_)
      refine ow1 (op1_l rfl (lo_pick_t (v := .bool _) rfl h5 rfl) ?_)
      refine ow1 (op1_l rfl (lo_move (v := .bool _) rfl) ?_)
      refine ow_sp (j := 19) rfl (fun h7 => ?_) (fun h7 => ?_)
      · have p8 := beqT h7
        refine ow1 (op1_g rfl h7 rfl (lo_fieldAddr rfl fl292_2) ?_)
        refine ow1 (op1_g rfl h7 rfl (lo_load1 (i := 0) (v := .slice _ _ _) rfl ag26 rfl rfl) ?_)
        refine ow1 (op1_g rfl h7 rfl (lo_fieldAddr rfl fl292_2) ?_)
        refine ow1 (op1_g rfl h7 rfl (lo_load1 (i := 1) (v := .slice _ _ _) rfl ag26 rfl rfl) ?_)
        refine ow1 (op1_prg rfl h7 (eq_Pair _ a_want_a a.want.length a_want_c a.want a_want_h b_want_a b.want.length b_want_c b.want b_want_h (by first | omega | (simp <;> omega))) (en_f cb209 rfl) rfl ?_)
        refine ow1 (op1_l rfl (lo_pick_t (v := .bool _) rfl h7 rfl) ?_)
        refine ow1 (op1_l rfl (lo_assign (v := .bool _) rfl) ?_)
        refine ow_nil ?_
        refine seqK_n ?_
        refine cw_ret ?_
        refine fnK_r (res1 rfl (rv_t (v := .bool _) rfl)) (.refl _) ?_
        first | (simp [Rule.eq_iff, *]; done)
      · have p9 := beqF h7
        refine ow1 (op1_gs rfl h7 rfl ?_)
        refine ow1 (op1_gs rfl h7 rfl ?_)
        refine ow1 (op1_gs rfl h7 rfl ?_)
        refine ow1 (op1_gs rfl h7 rfl ?_)
        refine ow1 (op1_gs rfl h7 rfl ?_)
        refine ow1 (op1_l rfl (lo_pick_f (v := .bool _) rfl h7 rfl) ?_)
        refine ow1 (op1_l rfl (lo_assign (v := .bool _) rfl) ?_)
        refine ow_nil ?_
        refine seqK_n ?_
        refine cw_ret ?_
        refine fnK_r (res1 rfl (rv_t (v := .bool _) rfl)) (.refl _) ?_
        first | (simp [Rule.eq_iff, *]; done)
    · have p10 := df h5
      refine ow1 (op1_gs rfl h5 rfl ?_)
      refine ow1 (op1_gs rfl h5 rfl ?_)
      refine ow1 (op1_gs rfl h5 rfl ?_)
      refine ow1 (op1_gs rfl h5 rfl ?_)
      refine ow1 (op1_gs rfl h5 rfl ?_)
      refine ow1 (op1_l rfl (lo_pick_f (v := .bool _) rfl h5 rfl) ?_)
      refine ow1 (op1_l rfl (lo_move (v := .bool _) rfl) ?_)
      refine ow1 (op1_gs rfl rfl rfl ?_)
      refine ow1 (op1_gs rfl rfl rfl ?_)
      refine ow1 (op1_gs rfl rfl rfl ?_)
      refine ow1 (op1_gs rfl rfl rfl ?_)
      refine ow1 (op1_gs rfl rfl rfl ?_)
      refine ow1 (op1_l rfl (lo_pick_f (v := .bool _) rfl rfl rfl) ?_)
      refine ow1 (op1_l rfl (lo_assign (v := .bool _) rfl) ?_)
      refine ow_nil ?_
      refine seqK_n ?_
      refine cw_ret ?_
      refine fnK_r (res1 rfl (rv_t (v := .bool _) rfl)) (.refl _) ?_
      first | (simp [Rule.eq_iff, *]; done)
  · have p11 := df h3
    refine ow1 (op1_gs rfl h3 rfl ?_)
    refine ow1 (op1_gs rfl h3 rfl ?_)
    refine ow1 (op1_gs rfl h3 rfl ?_)
    refine ow1 (op1_gs rfl h3 rfl ?_)
    refine ow1 (op1_gs rfl h3 rfl ?_)
    refine ow1 (op1_l rfl (lo_pick_f (v := .bool _) rfl h3 rfl) ?_)
    refine ow1 (op1_l rfl (lo_move (v := .bool _) rfl) ?_)
    refine ow1 (op1_gs rfl rfl rfl ?_)
    refine ow1 (op1_gs rfl rfl rfl ?_)
    refine ow1 (op1_gs rfl rfl rfl ?_)
    refine ow1 (op1_gs rfl rfl rfl ?_)
    refine ow1 (op1_gs rfl rfl rfl ?_)
    refine ow1 (op1_l rfl (lo_pick_f (v := .bool _) rfl rfl rfl) ?_)
    refine ow1 (op1_l rfl (lo_move (v := .bool _) rfl) ?_)
    refine ow1 (op1_gs rfl rfl rfl ?_)
    refine ow1 (op1_gs rfl rfl rfl ?_)
    refine ow1 (op1_gs rfl rfl rfl ?_)
    refine ow1 (op1_gs rfl rfl rfl ?_)
    refine ow1 (op1_gs rfl rfl rfl ?_)
    refine ow1 (op1_l rfl (lo_pick_f (v := .bool _) rfl rfl rfl) ?_)
    refine ow1 (op1_l rfl (lo_assign (v := .bool _) rfl) ?_)
    refine ow_nil ?_
    refine seqK_n ?_
    refine cw_ret ?_
    refine fnK_r (res1 rfl (rv_t (v := .bool _) rfl)) (.refl _) ?_
    first | (simp [Rule.eq_iff, *]; done)

end Go.SW
