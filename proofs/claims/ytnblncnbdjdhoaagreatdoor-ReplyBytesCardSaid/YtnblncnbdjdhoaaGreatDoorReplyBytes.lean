/-
  ReplyBytes: for every input the law returns true, and its arguments read as they did; the card, its listed variables tied to the program's text.
  Conditions: the listed package-level variables hold what the program's own text lays in them.
-/
import Derived.Test.YtnblncnbdjdhoaaGreatDoorReplyBytesP5
import Derived.Test.YtnblncnbdjdhoaaGreatDoorReplyBytesP3
import Derived.Test.YtnblncnbdjdhoaaGreatDoorCards
import Derived.Test.YtnblncnbdjdhoaaGreatDoorTie
import Derived.Deep.DeepHandedRow
import Derived.Deep.DeepWitnessRowRef
import Derived.Stop.LaidErr
import Derived.KernelRfl
set_option linter.unusedVariables false
set_option linter.unusedSimpArgs false
set_option linter.unusedVariables false
set_option maxRecDepth 100000
set_option maxHeartbeats 4000000
namespace Go.Proofs.YtnblncnbdjdhoaaGreatDoor.replyBytes
open Go.ChangeShapes Go.WideShapes Go.ChangeAt Go.RowKit Go.SW Go.Proofs
theorem own : ownKnob Tryz.prog.godebug = none := by kernel_rfl
theorem laidOut : laidOutB Tryz.prog = true := by kernel_rfl
theorem rdv224 : Rdv Tryz.prog 224 Go.SW.Pair.pc 4 := fun Ht enc w base spare held fuel cs x h hw => by
  obtain ⟨xs, n, _, rfl, hcl, hxl, hf⟩ := DataW.trod_struct Tryz.underlying224 h
  obtain ⟨z0, q0⟩ := rdv_fld Tryz.underlying224 hf hxl hw (i := 0) rfl (o := 0) rfl (ft := 9) rfl (k := 1) (by kernel_rfl) (rdv_str Tryz.underlying9)
  obtain ⟨z1, q1⟩ := rdv_fld Tryz.underlying224 hf hxl hw (i := 1) rfl (o := 1) rfl (ft := 5) rfl (k := 1) (by kernel_rfl) (rdv_int Tryz.underlying5)
  obtain ⟨z2, q2⟩ := rdv_fld Tryz.underlying224 hf hxl hw (i := 2) rfl (o := 2) rfl (ft := 2) rfl (k := 1) (by kernel_rfl) (rdv_int Tryz.underlying2)
  obtain ⟨z3, q3⟩ := rdv_fld Tryz.underlying224 hf hxl hw (i := 3) rfl (o := 3) rfl (ft := 9) rfl (k := 1) (by kernel_rfl) (rdv_str Tryz.underlying9)
  have e := (row_cut q0 (row_cut q1 (row_cut q2 (row_last (hcl.trans (by kernel_rfl)) q3))))
  rw [List.drop_zero] at e
  exact ⟨(⟨z0, z1, z2, z3⟩ : Go.SW.Pair), e⟩
theorem rdvs26 : Rdv Tryz.prog 26 (fun xs : List Go.SW.Pair => [Go.SW.PV.sl Go.SW.Pair.pc xs]) 1 := rdv_slice Tryz.underlying26 (k := 4) (by kernel_rfl) (by decide) (of_decide_eq_true (by kernel_rfl)) rdv224
theorem rdv28 : Rdv Tryz.prog 28 Go.SW.Mail.pc 7 := fun Ht enc w base spare held fuel cs x h hw => by
  obtain ⟨xs, n, _, rfl, hcl, hxl, hf⟩ := DataW.trod_struct Tryz.underlying28 h
  obtain ⟨z0, q0⟩ := rdv_fld Tryz.underlying28 hf hxl hw (i := 0) rfl (o := 0) rfl (ft := 25) rfl (k := 1) (by kernel_rfl) (rdv_int Tryz.underlying25)
  obtain ⟨z1, q1⟩ := rdv_fld Tryz.underlying28 hf hxl hw (i := 1) rfl (o := 1) rfl (ft := 9) rfl (k := 1) (by kernel_rfl) (rdv_str Tryz.underlying9)
  obtain ⟨z2, q2⟩ := rdv_fld Tryz.underlying28 hf hxl hw (i := 2) rfl (o := 2) rfl (ft := 9) rfl (k := 1) (by kernel_rfl) (rdv_str Tryz.underlying9)
  obtain ⟨z3, q3⟩ := rdv_fld Tryz.underlying28 hf hxl hw (i := 3) rfl (o := 3) rfl (ft := 26) rfl (k := 1) (by kernel_rfl) rdvs26
  obtain ⟨z4, q4⟩ := rdv_fld Tryz.underlying28 hf hxl hw (i := 4) rfl (o := 4) rfl (ft := 9) rfl (k := 1) (by kernel_rfl) (rdv_str Tryz.underlying9)
  obtain ⟨z5, q5⟩ := rdv_fld Tryz.underlying28 hf hxl hw (i := 5) rfl (o := 5) rfl (ft := 25) rfl (k := 1) (by kernel_rfl) (rdv_int Tryz.underlying25)
  obtain ⟨z6, q6⟩ := rdv_fld Tryz.underlying28 hf hxl hw (i := 6) rfl (o := 6) rfl (ft := 5) rfl (k := 1) (by kernel_rfl) (rdv_int Tryz.underlying5)
  have e := (row_cut q0 (row_cut q1 (row_cut q2 (row_cut q3 (row_cut q4 (row_cut q5 (row_last (hcl.trans (by kernel_rfl)) q6)))))))
  rw [List.drop_zero] at e
  exact ⟨(⟨z0, z1, z2, z3, z4, z5, z6⟩ : Go.SW.Mail), e⟩
theorem rdv30 : Rdv Tryz.prog 30 Go.SW.Reply.pc 13 := fun Ht enc w base spare held fuel cs x h hw => by
  obtain ⟨xs, n, _, rfl, hcl, hxl, hf⟩ := DataW.trod_struct Tryz.underlying30 h
  obtain ⟨z0, q0⟩ := rdv_fld Tryz.underlying30 hf hxl hw (i := 0) rfl (o := 0) rfl (ft := 5) rfl (k := 1) (by kernel_rfl) (rdv_int Tryz.underlying5)
  obtain ⟨z1, q1⟩ := rdv_fld Tryz.underlying30 hf hxl hw (i := 1) rfl (o := 1) rfl (ft := 5) rfl (k := 1) (by kernel_rfl) (rdv_int Tryz.underlying5)
  obtain ⟨z2, q2⟩ := rdv_fld Tryz.underlying30 hf hxl hw (i := 2) rfl (o := 2) rfl (ft := 25) rfl (k := 1) (by kernel_rfl) (rdv_int Tryz.underlying25)
  obtain ⟨z3, q3⟩ := rdv_fld Tryz.underlying30 hf hxl hw (i := 3) rfl (o := 3) rfl (ft := 25) rfl (k := 1) (by kernel_rfl) (rdv_int Tryz.underlying25)
  obtain ⟨z4, q4⟩ := rdv_fld Tryz.underlying30 hf hxl hw (i := 4) rfl (o := 4) rfl (ft := 4) rfl (k := 1) (by kernel_rfl) (rdv_bool Tryz.underlying4)
  obtain ⟨z5, q5⟩ := rdv_fld Tryz.underlying30 hf hxl hw (i := 5) rfl (o := 5) rfl (ft := 9) rfl (k := 1) (by kernel_rfl) (rdv_str Tryz.underlying9)
  obtain ⟨z6, q6⟩ := rdv_fld Tryz.underlying30 hf hxl hw (i := 6) rfl (o := 6) rfl (ft := 28) rfl (k := 7) (by kernel_rfl) rdv28
  have e := (row_cut q0 (row_cut q1 (row_cut q2 (row_cut q3 (row_cut q4 (row_cut q5 (row_last (hcl.trans (by kernel_rfl)) q6)))))))
  rw [List.drop_zero] at e
  exact ⟨(⟨z0, z1, z2, z3, z4, z5, z6⟩ : Go.SW.Reply), e⟩
theorem rdvs22 : Rdv Tryz.prog 22 (fun xs : List Go.SW.Reply => [Go.SW.PV.sl Go.SW.Reply.pc xs]) 1 := rdv_slice Tryz.underlying22 (k := 13) (by kernel_rfl) (by decide) (of_decide_eq_true (by kernel_rfl)) rdv30
theorem contract (H : Type) (enc : TypeId × Value → H) (W : World) (base : Nat) (args : Array Value) (ds gs : List (DataW H)) (before : List MemPlace)
    (hval0 : ∀ (j : Nat) t v, Tryz.f3.params[j]? = some t → args[j]? = some v → Value.okWide Tryz.prog W .any base t v)
    (hW : DataW.Whole enc Tryz.prog Tryz.f3.params.toList Rows.replyBytesSpec.vars false W args.toList ds gs before) (hWt : (DataW.weightsEach Tryz.prog (Tryz.f3.params.toList ++ (OpenSpec.ofChange Rows.replyBytesSpec).bare.plain.varTypes Tryz.prog) (ds ++ gs)).all (· ≤ reachBytes) = true) (hL : laidMetH Tryz.prog Rows.replyBytesRow.laid W) (hS : W.ShapedOpen Tryz.prog) :
    Calls Tryz.prog 3 args W fun e W' => ∃ v, e = .returned v ∧ Rows.replyBytesSpec.post enc Tryz.prog Tryz.f3 false true false false W args v W' := by
  have hL0 : laidMet Tryz.prog Rows.replyBytesRow.laid W := by
    rw [MakeChecks.laidMetH_plain _ _ _ (by kernel_rfl)] at hL
    exact hL
  have hW' := hW
  obtain ⟨p, q, hA0, hV, rfl, hfz, hnd⟩ := hW
  have hA : DataW.TrodAll enc Tryz.prog W 0 (fun _ => true) true Tryz.f3.params.toList args.toList ds p := hA0
  have hval := hval0
  rw [Tryz.params3] at hA hval
  obtain ⟨v0, vs0, d0, ds0, p0, q0, hargs, rfl, rfl, h0, r0⟩ := trodAll_cons hA
  obtain ⟨v1, vs1, d1, ds1, p1, q1, rfl, rfl, rfl, h1, r1⟩ := trodAll_cons r0
  obtain ⟨rfl, rfl, rfl⟩ := trodAll_nil r1
  obtain rfl : args = #[v0, v1] := by cases args; simp_all
  obtain ⟨rfl, rfl⟩ := trodVars_none hV
  obtain ⟨l, s0⟩ := arg_sl Tryz.underlying22 (hval 0 22 v0 rfl rfl) h0 (wt_arg (j := 0) (t := 22) hWt (by kernel_rfl) rfl) rdvs22
  obtain ⟨at_, s1⟩ := arg_int Tryz.underlying23 (hval 1 23 v1 rfl rfl) h1
  clear hA0 hval0
  have hML : GInt (hp W) 2 := gint_of_shape (t := 3) (zero := #[.int .i64 0]) hS (of_decide_eq_true (by kernel_rfl)) (by kernel_rfl) rfl (by kernel_rfl) (by kernel_rfl) Tryz.underlying3
  have hCrc : GTab (hp W) 1 laidT := gtab_of (g := 1) (n := 16) (by kernel_rfl) (by kernel_rfl) Tryz.underlying320 Tryz.underlying228 (by kernel_rfl) (by kernel_rfl) hL0
  refine (law_run (vs := [v0, v1]) (Go.SW.V.l12_ReplyBytes_ok l at_) (show Go.SW.V.gb.p (hp W) from ⟨hML, hCrc⟩) (Sims.cons s0 (Sims.cons s1 Sims.nil)) (Go.SW.V.l12_bytes _ _ s1.wf.1 s0.wf.2)).mono fun e W' ⟨he, hm⟩ => ?_
  subst he
  exact ⟨_, rfl, law_post (s := Rows.replyBytesSpec) rfl hW' (mem0_below hm) laidOut (params_ok (ts := Tryz.f3.params) (by kernel_rfl)) (tb := 4) rfl Tryz.underlying4 rfl⟩
/-- A world for the witness: the settled one, the listed variables holding what their initialisers lay. -/
theorem laid_met (os : Os) : laidMet Tryz.prog Rows.replyBytesRow.laid ((laidW Tryz.prog os [(1, Rows.laid_stairwell_crc_laid), (4, Rows.laid_unicode_utf8_acceptRanges), (3, Rows.laid_unicode_utf8_first)]).forCall (fun _ _ => 0) ⟨#[], #[.slice none 0 0, .int .u16 0], []⟩).memory :=
  laidMet_of_run' 8 (by kernel_rfl) (by kernel_rfl)
theorem reads (os : Os) {H : Type} (enc : TypeId × Value → H) : ∃ places, DataW.whole enc Tryz.prog ((laidW Tryz.prog os [(1, Rows.laid_stairwell_crc_laid), (4, Rows.laid_unicode_utf8_acceptRanges), (3, Rows.laid_unicode_utf8_first)]).forCall (fun _ _ => 0) ⟨#[], #[.slice none 0 0, .int .u16 0], []⟩).memory Tryz.f3.params.toList Rows.replyBytesSpec.vars false (#[.slice none 0 0, .int .u16 0] : Array Value).toList 8 = some ([.nil, .lit (.int .u16 0)], [], places) :=
  ⟨[], by kernel_rfl⟩
theorem lifted (os : Os) (started : os.Started) (H : Type) (enc : TypeId × Value → H) (F : Stop.Interp) :
    ReturnsInHanded {} Tryz.checked os 3 .any ((OpenSpec.ofChange Rows.replyBytesSpec).preRow enc Tryz.prog Tryz.f3 Rows.replyBytesRow.domain false Rows.replyBytesRow.laid) (((OpenSpec.ofChange Rows.replyBytesSpec).at F).post enc Tryz.prog Tryz.f3 false true false false) := by
  obtain ⟨places, hx⟩ := reads os enc
  refine returnsInHanded_of_row (C := Tryz.checked) (s := OpenSpec.ofChange Rows.replyBytesSpec) own started (by kernel_rfl) Tryz.func3
    (witness_row_at (enc := enc) (C := Tryz.checked) false (laidW Tryz.prog os [(1, Rows.laid_stairwell_crc_laid), (4, Rows.laid_unicode_utf8_acceptRanges), (3, Rows.laid_unicode_utf8_first)]) #[.slice none 0 0, .int .u16 0] rfl (by kernel_rfl) (by kernel_rfl) (by kernel_rfl)
      (OpenSpec.preRow_of_cond 8 hx (by kernel_rfl) (fun k hk => by cases hk) (by kernel_rfl) (laid_met os))) ?_
  intro W base args ds gs before hval hW _ _ hWt hL hS _
  exact contract H enc W base args ds gs before hval hW hWt hL hS
theorem closed : joinedFacts Tryz.pinned.checked.prog 3 Tryz.f3 (OpenSpec.ofChange Rows.replyBytesSpec).bare Rows.replyBytesRow = true := by
  unfold joinedFacts
  simp only [Bool.and_eq_true]
  repeat' (refine And.intro ?_ ?_)
  all_goals (as_aux_lemma => kernel_rfl)
theorem said : Rows.ReplyBytesSaid :=
  OpenClaim.holds_of_cond 3 Tryz.f3 rfl rfl rfl rfl rfl rfl rfl ⟨rfl, rfl, rfl, rfl, rfl⟩ rfl rfl rfl rfl rfl (by as_aux_lemma => kernel_rfl) Tryz.func3 closed
    (of_decide_eq_true (by as_aux_lemma => kernel_rfl)) (by unfold Func.isWrapper; first | (rw [if_pos (by decide +kernel)]; kernel_rfl) | (rw [if_neg (by decide +kernel)]; exact ⟨rfl, rfl⟩))
    (fun os started H enc _ F => by rw [OpenClaim.pre_eq_preRow]; exact lifted os started H enc F)
theorem plain (f : FuncId) (fn : Func) (hf : Tryz.pinned.checked.prog.funcNamed "stairwell/stairwelllaw12.ReplyBytes" = some f) (hfn : Tryz.pinned.checked.prog.funcs[f]? = some fn) :
    false = Tryz.pinned.checked.prog.looks [] ∧ ∀ (j : Nat) t, fn.params[j]? = some t → Tryz.pinned.checked.prog.wantsStandIn t = false := by
  obtain rfl : f = 3 := Option.some.inj ((show Tryz.prog.funcNamed "stairwell/stairwelllaw12.ReplyBytes" = some 3 by kernel_rfl).symm.trans hf) |>.symm
  obtain rfl : fn = Tryz.f3 := (Option.some.inj (Tryz.func3.symm.trans hfn)).symm
  refine ⟨by as_aux_lemma => kernel_rfl, fun j t ht => ?_⟩
  rw [Tryz.params3] at ht
  have hm : t ∈ [22, 23] := by simpa using Array.mem_of_getElem? ht
  have hall : ([22, 23].all fun u => !Tryz.prog.wantsStandIn u) = true := by kernel_rfl
  exact (show Tryz.prog.wantsStandIn t = false by simpa using List.all_eq_true.1 hall t hm)
theorem card : Rows.ReplyBytesCardSaid :=
  Claim7.holds_tied_plain_at .later [] _ _ _ _ said (fun _ h => by cases h) (by as_aux_lemma => kernel_rfl) (fun _ h => by cases h) replyBytes_row_tie rfl ⟨rfl, rfl⟩ (by as_aux_lemma => kernel_rfl) rfl plain (by as_aux_lemma => kernel_rfl)
#print axioms card
end Go.Proofs.YtnblncnbdjdhoaaGreatDoor.replyBytes
