/-
  SessionGates: for every input the law returns true, and its arguments read as they did; the card, its listed variables tied to the program's text.
  Conditions: the listed package-level variables hold what the program's own text lays in them.
-/
import Derived.Test.YtifcilncaepeoaaGreatDoorSessionGatesP7
import Derived.Test.YtifcilncaepeoaaGreatDoorSessionGatesP3
import Derived.Test.YtifcilncaepeoaaGreatDoorCards
import Derived.Test.YtifcilncaepeoaaGreatDoorTie
import Derived.Deep.DeepHandedRow
import Derived.Deep.DeepWitnessRowRef
import Derived.Stop.LaidErr
import Derived.KernelRfl
set_option linter.unusedVariables false
set_option linter.unusedSimpArgs false
set_option linter.unusedVariables false
set_option maxRecDepth 100000
set_option maxHeartbeats 4000000
namespace Go.Proofs.YtifcilncaepeoaaGreatDoor.sessionGates
open Go.ChangeShapes Go.WideShapes Go.ChangeAt Go.RowKit Go.SW Go.Proofs
theorem own : ownKnob Tryz.prog.godebug = none := by kernel_rfl
theorem laidOut : laidOutB Tryz.prog = true := by kernel_rfl
theorem rdv199 : Rdv Tryz.prog 199 Go.SW.Pair.pc 4 := fun Ht enc w base spare held fuel cs x h hw => by
  obtain ⟨xs, n, _, rfl, hcl, hxl, hf⟩ := DataW.trod_struct Tryz.underlying199 h
  obtain ⟨z0, q0⟩ := rdv_fld Tryz.underlying199 hf hxl hw (i := 0) rfl (o := 0) rfl (ft := 9) rfl (k := 1) (by kernel_rfl) (rdv_str Tryz.underlying9)
  obtain ⟨z1, q1⟩ := rdv_fld Tryz.underlying199 hf hxl hw (i := 1) rfl (o := 1) rfl (ft := 5) rfl (k := 1) (by kernel_rfl) (rdv_int Tryz.underlying5)
  obtain ⟨z2, q2⟩ := rdv_fld Tryz.underlying199 hf hxl hw (i := 2) rfl (o := 2) rfl (ft := 2) rfl (k := 1) (by kernel_rfl) (rdv_int Tryz.underlying2)
  obtain ⟨z3, q3⟩ := rdv_fld Tryz.underlying199 hf hxl hw (i := 3) rfl (o := 3) rfl (ft := 9) rfl (k := 1) (by kernel_rfl) (rdv_str Tryz.underlying9)
  have e := (row_cut q0 (row_cut q1 (row_cut q2 (row_last (hcl.trans (by kernel_rfl)) q3))))
  rw [List.drop_zero] at e
  exact ⟨(⟨z0, z1, z2, z3⟩ : Go.SW.Pair), e⟩
theorem rdvs47 : Rdv Tryz.prog 47 (fun xs : List Go.SW.Pair => [Go.SW.PV.sl Go.SW.Pair.pc xs]) 1 := rdv_slice Tryz.underlying47 (k := 4) (by kernel_rfl) (by decide) (of_decide_eq_true (by kernel_rfl)) rdv199
theorem rdv64 : Rdv Tryz.prog 64 Go.SW.Method.pc 10 := fun Ht enc w base spare held fuel cs x h hw => by
  obtain ⟨xs, n, _, rfl, hcl, hxl, hf⟩ := DataW.trod_struct Tryz.underlying64 h
  obtain ⟨z0, q0⟩ := rdv_fld Tryz.underlying64 hf hxl hw (i := 0) rfl (o := 0) rfl (ft := 5) rfl (k := 1) (by kernel_rfl) (rdv_int Tryz.underlying5)
  obtain ⟨z1, q1⟩ := rdv_fld Tryz.underlying64 hf hxl hw (i := 1) rfl (o := 1) rfl (ft := 5) rfl (k := 1) (by kernel_rfl) (rdv_int Tryz.underlying5)
  obtain ⟨z2, q2⟩ := rdv_fld Tryz.underlying64 hf hxl hw (i := 2) rfl (o := 2) rfl (ft := 9) rfl (k := 1) (by kernel_rfl) (rdv_str Tryz.underlying9)
  obtain ⟨z3, q3⟩ := rdv_fld Tryz.underlying64 hf hxl hw (i := 3) rfl (o := 3) rfl (ft := 9) rfl (k := 1) (by kernel_rfl) (rdv_str Tryz.underlying9)
  obtain ⟨z4, q4⟩ := rdv_fld Tryz.underlying64 hf hxl hw (i := 4) rfl (o := 4) rfl (ft := 9) rfl (k := 1) (by kernel_rfl) (rdv_str Tryz.underlying9)
  obtain ⟨z5, q5⟩ := rdv_fld Tryz.underlying64 hf hxl hw (i := 5) rfl (o := 5) rfl (ft := 47) rfl (k := 1) (by kernel_rfl) rdvs47
  obtain ⟨z6, q6⟩ := rdv_fld Tryz.underlying64 hf hxl hw (i := 6) rfl (o := 6) rfl (ft := 9) rfl (k := 1) (by kernel_rfl) (rdv_str Tryz.underlying9)
  obtain ⟨z7, q7⟩ := rdv_fld Tryz.underlying64 hf hxl hw (i := 7) rfl (o := 7) rfl (ft := 27) rfl (k := 1) (by kernel_rfl) (rdv_int Tryz.underlying27)
  obtain ⟨z8, q8⟩ := rdv_fld Tryz.underlying64 hf hxl hw (i := 8) rfl (o := 8) rfl (ft := 27) rfl (k := 1) (by kernel_rfl) (rdv_int Tryz.underlying27)
  obtain ⟨z9, q9⟩ := rdv_fld Tryz.underlying64 hf hxl hw (i := 9) rfl (o := 9) rfl (ft := 4) rfl (k := 1) (by kernel_rfl) (rdv_bool Tryz.underlying4)
  have e := (row_cut q0 (row_cut q1 (row_cut q2 (row_cut q3 (row_cut q4 (row_cut q5 (row_cut q6 (row_cut q7 (row_cut q8 (row_last (hcl.trans (by kernel_rfl)) q9))))))))))
  rw [List.drop_zero] at e
  exact ⟨(⟨z0, z1, z2, z3, z4, z5, z6, z7, z8, z9⟩ : Go.SW.Method), e⟩
theorem contract (H : Type) (enc : TypeId × Value → H) (W : World) (base : Nat) (args : Array Value) (ds gs : List (DataW H)) (before : List MemPlace)
    (hval0 : ∀ (j : Nat) t v, Tryz.f4.params[j]? = some t → args[j]? = some v → Value.okWide Tryz.prog W .any base t v)
    (hW : DataW.Whole enc Tryz.prog Tryz.f4.params.toList Rows.sessionGatesSpec.vars false W args.toList ds gs before) (hWt : (DataW.weightsEach Tryz.prog (Tryz.f4.params.toList ++ (OpenSpec.ofChange Rows.sessionGatesSpec).bare.plain.varTypes Tryz.prog) (ds ++ gs)).all (· ≤ reachBytes) = true) (hL : laidMetH Tryz.prog Rows.sessionGatesRow.laid W) (hS : W.ShapedOpen Tryz.prog) :
    Calls Tryz.prog 4 args W fun e W' => ∃ v, e = .returned v ∧ Rows.sessionGatesSpec.post enc Tryz.prog Tryz.f4 false true false false W args v W' := by
  have hL0 : laidMet Tryz.prog Rows.sessionGatesRow.laid W := by
    rw [MakeChecks.laidMetH_plain _ _ _ (by kernel_rfl)] at hL
    exact hL
  have hW' := hW
  obtain ⟨p, q, hA0, hV, rfl, hfz, hnd⟩ := hW
  have hA : DataW.TrodAll enc Tryz.prog W 0 (fun _ => true) true Tryz.f4.params.toList args.toList ds p := hA0
  have hval := hval0
  rw [Tryz.params4] at hA hval
  obtain ⟨v0, vs0, d0, ds0, p0, q0, hargs, rfl, rfl, h0, r0⟩ := trodAll_cons hA
  obtain ⟨v1, vs1, d1, ds1, p1, q1, rfl, rfl, rfl, h1, r1⟩ := trodAll_cons r0
  obtain ⟨rfl, rfl, rfl⟩ := trodAll_nil r1
  obtain rfl : args = #[v0, v1] := by cases args; simp_all
  obtain ⟨rfl, rfl⟩ := trodVars_none hV
  obtain ⟨m, s0⟩ := arg_rec Tryz.underlying64 (hval 0 64 v0 rfl rfl) h0 (wt_arg (j := 0) (t := 64) hWt (by kernel_rfl) rfl) rdv64
  obtain ⟨tick, s1⟩ := arg_int Tryz.underlying27 (hval 1 27 v1 rfl rfl) h1
  clear hA0 hval0
  have hML : GInt (hp W) 2 := gint_of_shape (t := 3) (zero := #[.int .i64 0]) hS (of_decide_eq_true (by kernel_rfl)) (by kernel_rfl) rfl (by kernel_rfl) (by kernel_rfl) Tryz.underlying3
  have hCrc : GTab (hp W) 1 laidT := gtab_of (g := 1) (n := 16) (by kernel_rfl) (by kernel_rfl) Tryz.underlying324 Tryz.underlying258 (by kernel_rfl) (by kernel_rfl) hL0
  have hTells : GStrs (hp W) 0 tellsT := gstrs_of (g := 0) (zs := tellsT) (by kernel_rfl) (by kernel_rfl) Tryz.underlying219 Tryz.underlying9 (by kernel_rfl) (by kernel_rfl) (laidMet.tail (laidMet.tail hL0))
  refine (law_run (vs := [v0, v1]) (Go.SW.V.l28_SessionGates_ok m tick) (show Go.SW.V.gb.p (hp W) from ⟨hML, hCrc, hTells⟩) (Sims.cons s0 (Sims.cons s1 Sims.nil)) (Go.SW.V.l28_gates _ _ s0.wf)).mono fun e W' ⟨he, hm⟩ => ?_
  subst he
  exact ⟨_, rfl, law_post (s := Rows.sessionGatesSpec) rfl hW' (mem0_below hm) laidOut (params_ok (ts := Tryz.f4.params) (by kernel_rfl)) (tb := 4) rfl Tryz.underlying4 rfl⟩
/-- A world for the witness: the settled one, the listed variables holding what their initialisers lay. -/
theorem laid_met (os : Os) : laidMet Tryz.prog Rows.sessionGatesRow.laid ((laidW Tryz.prog os [(1, Rows.laid_stairwell_crc_laid), (4, Rows.laid_unicode_utf8_acceptRanges), (0, Rows.laid_stairwell_method_tells), (3, Rows.laid_unicode_utf8_first)]).forCall (fun _ _ => 0) ⟨#[], #[.agg #[.int .u8 0, .int .u8 0, .string ⟨#[]⟩, .string ⟨#[]⟩, .string ⟨#[]⟩, .slice none 0 0, .string ⟨#[]⟩, .int .u64 0, .int .u64 0, .bool false], .int .u64 0], []⟩).memory :=
  laidMet_of_run' 8 (by kernel_rfl) (by kernel_rfl)
theorem reads (os : Os) {H : Type} (enc : TypeId × Value → H) : ∃ places, DataW.whole enc Tryz.prog ((laidW Tryz.prog os [(1, Rows.laid_stairwell_crc_laid), (4, Rows.laid_unicode_utf8_acceptRanges), (0, Rows.laid_stairwell_method_tells), (3, Rows.laid_unicode_utf8_first)]).forCall (fun _ _ => 0) ⟨#[], #[.agg #[.int .u8 0, .int .u8 0, .string ⟨#[]⟩, .string ⟨#[]⟩, .string ⟨#[]⟩, .slice none 0 0, .string ⟨#[]⟩, .int .u64 0, .int .u64 0, .bool false], .int .u64 0], []⟩).memory Tryz.f4.params.toList Rows.sessionGatesSpec.vars false (#[.agg #[.int .u8 0, .int .u8 0, .string ⟨#[]⟩, .string ⟨#[]⟩, .string ⟨#[]⟩, .slice none 0 0, .string ⟨#[]⟩, .int .u64 0, .int .u64 0, .bool false], .int .u64 0] : Array Value).toList 8 = some ([.agg [.lit (.int .u8 0), .lit (.int .u8 0), .lit (.string []), .lit (.string []), .lit (.string []), .nil, .lit (.string []), .lit (.int .u64 0), .lit (.int .u64 0), .lit (.bool false)], .lit (.int .u64 0)], [], places) :=
  ⟨[], by kernel_rfl⟩
theorem lifted (os : Os) (started : os.Started) (H : Type) (enc : TypeId × Value → H) (F : Stop.Interp) :
    ReturnsInHanded {} Tryz.checked os 4 .any ((OpenSpec.ofChange Rows.sessionGatesSpec).preRow enc Tryz.prog Tryz.f4 Rows.sessionGatesRow.domain false Rows.sessionGatesRow.laid) (((OpenSpec.ofChange Rows.sessionGatesSpec).at F).post enc Tryz.prog Tryz.f4 false true false false) := by
  obtain ⟨places, hx⟩ := reads os enc
  refine returnsInHanded_of_row (C := Tryz.checked) (s := OpenSpec.ofChange Rows.sessionGatesSpec) own started (by kernel_rfl) Tryz.func4
    (witness_row_at (enc := enc) (C := Tryz.checked) false (laidW Tryz.prog os [(1, Rows.laid_stairwell_crc_laid), (4, Rows.laid_unicode_utf8_acceptRanges), (0, Rows.laid_stairwell_method_tells), (3, Rows.laid_unicode_utf8_first)]) #[.agg #[.int .u8 0, .int .u8 0, .string ⟨#[]⟩, .string ⟨#[]⟩, .string ⟨#[]⟩, .slice none 0 0, .string ⟨#[]⟩, .int .u64 0, .int .u64 0, .bool false], .int .u64 0] rfl (by kernel_rfl) (by kernel_rfl) (by kernel_rfl)
      (OpenSpec.preRow_of_cond 8 hx (by kernel_rfl) (fun k hk => by cases hk) (by kernel_rfl) (laid_met os))) ?_
  intro W base args ds gs before hval hW _ _ hWt hL hS _
  exact contract H enc W base args ds gs before hval hW hWt hL hS
theorem closed : joinedFacts Tryz.pinned.checked.prog 4 Tryz.f4 (OpenSpec.ofChange Rows.sessionGatesSpec).bare Rows.sessionGatesRow = true := by
  unfold joinedFacts
  simp only [Bool.and_eq_true]
  repeat' (refine And.intro ?_ ?_)
  all_goals (as_aux_lemma => kernel_rfl)
theorem said : Rows.SessionGatesSaid :=
  OpenClaim.holds_of_cond 4 Tryz.f4 rfl rfl rfl rfl rfl rfl rfl ⟨rfl, rfl, rfl, rfl, rfl⟩ rfl rfl rfl rfl rfl (by as_aux_lemma => kernel_rfl) Tryz.func4 closed
    (of_decide_eq_true (by as_aux_lemma => kernel_rfl)) (by unfold Func.isWrapper; first | (rw [if_pos (by decide +kernel)]; kernel_rfl) | (rw [if_neg (by decide +kernel)]; exact ⟨rfl, rfl⟩))
    (fun os started H enc _ F => by rw [OpenClaim.pre_eq_preRow]; exact lifted os started H enc F)
theorem plain (f : FuncId) (fn : Func) (hf : Tryz.pinned.checked.prog.funcNamed "stairwell/stairwelllaw28.SessionGates" = some f) (hfn : Tryz.pinned.checked.prog.funcs[f]? = some fn) :
    false = Tryz.pinned.checked.prog.looks [] ∧ ∀ (j : Nat) t, fn.params[j]? = some t → Tryz.pinned.checked.prog.wantsStandIn t = false := by
  obtain rfl : f = 4 := Option.some.inj ((show Tryz.prog.funcNamed "stairwell/stairwelllaw28.SessionGates" = some 4 by kernel_rfl).symm.trans hf) |>.symm
  obtain rfl : fn = Tryz.f4 := (Option.some.inj (Tryz.func4.symm.trans hfn)).symm
  refine ⟨by as_aux_lemma => kernel_rfl, fun j t ht => ?_⟩
  rw [Tryz.params4] at ht
  have hm : t ∈ [64, 27] := by simpa using Array.mem_of_getElem? ht
  have hall : ([64, 27].all fun u => !Tryz.prog.wantsStandIn u) = true := by kernel_rfl
  exact (show Tryz.prog.wantsStandIn t = false by simpa using List.all_eq_true.1 hall t hm)
theorem card : Rows.SessionGatesCardSaid :=
  Claim7.holds_tied_plain_at .later [] _ _ _ _ said (fun _ h => by cases h) (by as_aux_lemma => kernel_rfl) (fun _ h => by cases h) sessionGates_row_tie rfl ⟨rfl, rfl⟩ (by as_aux_lemma => kernel_rfl) rfl plain (by as_aux_lemma => kernel_rfl)
#print axioms card
end Go.Proofs.YtifcilncaepeoaaGreatDoor.sessionGates
