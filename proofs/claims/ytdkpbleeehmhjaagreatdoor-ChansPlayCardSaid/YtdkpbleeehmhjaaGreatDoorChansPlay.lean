/-
  ChansPlay: for every input the law returns true, and its arguments read as they did; the card, its listed variables tied to the program's text.
  Conditions: the listed package-level variables hold what the program's own text lays in them.
-/
import Derived.Test.YtdkpbleeehmhjaaGreatDoorChansPlayP6
import Derived.Test.YtdkpbleeehmhjaaGreatDoorChansPlayP7
import Derived.Test.YtdkpbleeehmhjaaGreatDoorCards
import Derived.Test.YtdkpbleeehmhjaaGreatDoorTie
import Derived.Deep.DeepHandedRow
import Derived.Deep.DeepWitnessRowRef
import Derived.Stop.LaidErr
import Derived.KernelRfl
set_option linter.unusedVariables false
set_option linter.unusedSimpArgs false
set_option linter.unusedVariables false
set_option maxRecDepth 100000
set_option maxHeartbeats 4000000
namespace Go.Proofs.YtdkpbleeehmhjaaGreatDoor.chansPlay
open Go.ChangeShapes Go.WideShapes Go.ChangeAt Go.RowKit Go.SW Go.Proofs
theorem own : ownKnob Tryz.prog.godebug = none := by kernel_rfl
theorem laidOut : laidOutB Tryz.prog = true := by kernel_rfl
theorem rdv44 : Rdv Tryz.prog 44 Go.SW.ShopR.pc 3 := fun Ht enc w base spare held fuel cs x h hw => by
  obtain ⟨xs, n, _, rfl, hcl, hxl, hf⟩ := DataW.trod_struct Tryz.underlying44 h
  obtain ⟨z0, q0⟩ := rdv_fld Tryz.underlying44 hf hxl hw (i := 0) rfl (o := 0) rfl (ft := 9) rfl (k := 1) (by kernel_rfl) (rdv_str Tryz.underlying9)
  obtain ⟨z1, q1⟩ := rdv_fld Tryz.underlying44 hf hxl hw (i := 1) rfl (o := 1) rfl (ft := 5) rfl (k := 1) (by kernel_rfl) (rdv_int Tryz.underlying5)
  obtain ⟨z2, q2⟩ := rdv_fld Tryz.underlying44 hf hxl hw (i := 2) rfl (o := 2) rfl (ft := 9) rfl (k := 1) (by kernel_rfl) (rdv_str Tryz.underlying9)
  have e := (row_cut q0 (row_cut q1 (row_last (hcl.trans (by kernel_rfl)) q2)))
  rw [List.drop_zero] at e
  exact ⟨(⟨z0, z1, z2⟩ : Go.SW.ShopR), e⟩
theorem rdv46 : Rdv Tryz.prog 46 Go.SW.QueueR.pc 4 := fun Ht enc w base spare held fuel cs x h hw => by
  obtain ⟨xs, n, _, rfl, hcl, hxl, hf⟩ := DataW.trod_struct Tryz.underlying46 h
  obtain ⟨z0, q0⟩ := rdv_fld Tryz.underlying46 hf hxl hw (i := 0) rfl (o := 0) rfl (ft := 9) rfl (k := 1) (by kernel_rfl) (rdv_str Tryz.underlying9)
  obtain ⟨z1, q1⟩ := rdv_fld Tryz.underlying46 hf hxl hw (i := 1) rfl (o := 1) rfl (ft := 22) rfl (k := 1) (by kernel_rfl) (rdv_int Tryz.underlying22)
  obtain ⟨z2, q2⟩ := rdv_fld Tryz.underlying46 hf hxl hw (i := 2) rfl (o := 2) rfl (ft := 22) rfl (k := 1) (by kernel_rfl) (rdv_int Tryz.underlying22)
  obtain ⟨z3, q3⟩ := rdv_fld Tryz.underlying46 hf hxl hw (i := 3) rfl (o := 3) rfl (ft := 9) rfl (k := 1) (by kernel_rfl) (rdv_str Tryz.underlying9)
  have e := (row_cut q0 (row_cut q1 (row_cut q2 (row_last (hcl.trans (by kernel_rfl)) q3))))
  rw [List.drop_zero] at e
  exact ⟨(⟨z0, z1, z2, z3⟩ : Go.SW.QueueR), e⟩
theorem rdv139 : Rdv Tryz.prog 139 Go.SW.Pair.pc 4 := fun Ht enc w base spare held fuel cs x h hw => by
  obtain ⟨xs, n, _, rfl, hcl, hxl, hf⟩ := DataW.trod_struct Tryz.underlying139 h
  obtain ⟨z0, q0⟩ := rdv_fld Tryz.underlying139 hf hxl hw (i := 0) rfl (o := 0) rfl (ft := 9) rfl (k := 1) (by kernel_rfl) (rdv_str Tryz.underlying9)
  obtain ⟨z1, q1⟩ := rdv_fld Tryz.underlying139 hf hxl hw (i := 1) rfl (o := 1) rfl (ft := 5) rfl (k := 1) (by kernel_rfl) (rdv_int Tryz.underlying5)
  obtain ⟨z2, q2⟩ := rdv_fld Tryz.underlying139 hf hxl hw (i := 2) rfl (o := 2) rfl (ft := 2) rfl (k := 1) (by kernel_rfl) (rdv_int Tryz.underlying2)
  obtain ⟨z3, q3⟩ := rdv_fld Tryz.underlying139 hf hxl hw (i := 3) rfl (o := 3) rfl (ft := 9) rfl (k := 1) (by kernel_rfl) (rdv_str Tryz.underlying9)
  have e := (row_cut q0 (row_cut q1 (row_cut q2 (row_last (hcl.trans (by kernel_rfl)) q3))))
  rw [List.drop_zero] at e
  exact ⟨(⟨z0, z1, z2, z3⟩ : Go.SW.Pair), e⟩
theorem rdvs47 : Rdv Tryz.prog 47 (fun xs : List Go.SW.Pair => [Go.SW.PV.sl Go.SW.Pair.pc xs]) 1 := rdv_slice Tryz.underlying47 (k := 4) (by kernel_rfl) (by decide) (of_decide_eq_true (by kernel_rfl)) rdv139
theorem rdv49 : Rdv Tryz.prog 49 Go.SW.BindR.pc 6 := fun Ht enc w base spare held fuel cs x h hw => by
  obtain ⟨xs, n, _, rfl, hcl, hxl, hf⟩ := DataW.trod_struct Tryz.underlying49 h
  obtain ⟨z0, q0⟩ := rdv_fld Tryz.underlying49 hf hxl hw (i := 0) rfl (o := 0) rfl (ft := 9) rfl (k := 1) (by kernel_rfl) (rdv_str Tryz.underlying9)
  obtain ⟨z1, q1⟩ := rdv_fld Tryz.underlying49 hf hxl hw (i := 1) rfl (o := 1) rfl (ft := 9) rfl (k := 1) (by kernel_rfl) (rdv_str Tryz.underlying9)
  obtain ⟨z2, q2⟩ := rdv_fld Tryz.underlying49 hf hxl hw (i := 2) rfl (o := 2) rfl (ft := 4) rfl (k := 1) (by kernel_rfl) (rdv_bool Tryz.underlying4)
  obtain ⟨z3, q3⟩ := rdv_fld Tryz.underlying49 hf hxl hw (i := 3) rfl (o := 3) rfl (ft := 9) rfl (k := 1) (by kernel_rfl) (rdv_str Tryz.underlying9)
  obtain ⟨z4, q4⟩ := rdv_fld Tryz.underlying49 hf hxl hw (i := 4) rfl (o := 4) rfl (ft := 47) rfl (k := 1) (by kernel_rfl) rdvs47
  obtain ⟨z5, q5⟩ := rdv_fld Tryz.underlying49 hf hxl hw (i := 5) rfl (o := 5) rfl (ft := 4) rfl (k := 1) (by kernel_rfl) (rdv_bool Tryz.underlying4)
  have e := (row_cut q0 (row_cut q1 (row_cut q2 (row_cut q3 (row_cut q4 (row_last (hcl.trans (by kernel_rfl)) q5))))))
  rw [List.drop_zero] at e
  exact ⟨(⟨z0, z1, z2, z3, z4, z5⟩ : Go.SW.BindR), e⟩
theorem rdv51 : Rdv Tryz.prog 51 Go.SW.Mail.pc 7 := fun Ht enc w base spare held fuel cs x h hw => by
  obtain ⟨xs, n, _, rfl, hcl, hxl, hf⟩ := DataW.trod_struct Tryz.underlying51 h
  obtain ⟨z0, q0⟩ := rdv_fld Tryz.underlying51 hf hxl hw (i := 0) rfl (o := 0) rfl (ft := 22) rfl (k := 1) (by kernel_rfl) (rdv_int Tryz.underlying22)
  obtain ⟨z1, q1⟩ := rdv_fld Tryz.underlying51 hf hxl hw (i := 1) rfl (o := 1) rfl (ft := 9) rfl (k := 1) (by kernel_rfl) (rdv_str Tryz.underlying9)
  obtain ⟨z2, q2⟩ := rdv_fld Tryz.underlying51 hf hxl hw (i := 2) rfl (o := 2) rfl (ft := 9) rfl (k := 1) (by kernel_rfl) (rdv_str Tryz.underlying9)
  obtain ⟨z3, q3⟩ := rdv_fld Tryz.underlying51 hf hxl hw (i := 3) rfl (o := 3) rfl (ft := 47) rfl (k := 1) (by kernel_rfl) rdvs47
  obtain ⟨z4, q4⟩ := rdv_fld Tryz.underlying51 hf hxl hw (i := 4) rfl (o := 4) rfl (ft := 9) rfl (k := 1) (by kernel_rfl) (rdv_str Tryz.underlying9)
  obtain ⟨z5, q5⟩ := rdv_fld Tryz.underlying51 hf hxl hw (i := 5) rfl (o := 5) rfl (ft := 22) rfl (k := 1) (by kernel_rfl) (rdv_int Tryz.underlying22)
  obtain ⟨z6, q6⟩ := rdv_fld Tryz.underlying51 hf hxl hw (i := 6) rfl (o := 6) rfl (ft := 5) rfl (k := 1) (by kernel_rfl) (rdv_int Tryz.underlying5)
  have e := (row_cut q0 (row_cut q1 (row_cut q2 (row_cut q3 (row_cut q4 (row_cut q5 (row_last (hcl.trans (by kernel_rfl)) q6)))))))
  rw [List.drop_zero] at e
  exact ⟨(⟨z0, z1, z2, z3, z4, z5, z6⟩ : Go.SW.Mail), e⟩
theorem rdv53 : Rdv Tryz.prog 53 Go.SW.DeedR.pc 29 := fun Ht enc w base spare held fuel cs x h hw => by
  obtain ⟨xs, n, _, rfl, hcl, hxl, hf⟩ := DataW.trod_struct Tryz.underlying53 h
  obtain ⟨z0, q0⟩ := rdv_fld Tryz.underlying53 hf hxl hw (i := 0) rfl (o := 0) rfl (ft := 5) rfl (k := 1) (by kernel_rfl) (rdv_int Tryz.underlying5)
  obtain ⟨z1, q1⟩ := rdv_fld Tryz.underlying53 hf hxl hw (i := 1) rfl (o := 1) rfl (ft := 22) rfl (k := 1) (by kernel_rfl) (rdv_int Tryz.underlying22)
  obtain ⟨z2, q2⟩ := rdv_fld Tryz.underlying53 hf hxl hw (i := 2) rfl (o := 2) rfl (ft := 44) rfl (k := 3) (by kernel_rfl) rdv44
  obtain ⟨z3, q3⟩ := rdv_fld Tryz.underlying53 hf hxl hw (i := 3) rfl (o := 5) rfl (ft := 46) rfl (k := 4) (by kernel_rfl) rdv46
  obtain ⟨z4, q4⟩ := rdv_fld Tryz.underlying53 hf hxl hw (i := 4) rfl (o := 9) rfl (ft := 49) rfl (k := 6) (by kernel_rfl) rdv49
  obtain ⟨z5, q5⟩ := rdv_fld Tryz.underlying53 hf hxl hw (i := 5) rfl (o := 15) rfl (ft := 9) rfl (k := 1) (by kernel_rfl) (rdv_str Tryz.underlying9)
  obtain ⟨z6, q6⟩ := rdv_fld Tryz.underlying53 hf hxl hw (i := 6) rfl (o := 16) rfl (ft := 22) rfl (k := 1) (by kernel_rfl) (rdv_int Tryz.underlying22)
  obtain ⟨z7, q7⟩ := rdv_fld Tryz.underlying53 hf hxl hw (i := 7) rfl (o := 17) rfl (ft := 5) rfl (k := 1) (by kernel_rfl) (rdv_int Tryz.underlying5)
  obtain ⟨z8, q8⟩ := rdv_fld Tryz.underlying53 hf hxl hw (i := 8) rfl (o := 18) rfl (ft := 5) rfl (k := 1) (by kernel_rfl) (rdv_int Tryz.underlying5)
  obtain ⟨z9, q9⟩ := rdv_fld Tryz.underlying53 hf hxl hw (i := 9) rfl (o := 19) rfl (ft := 5) rfl (k := 1) (by kernel_rfl) (rdv_int Tryz.underlying5)
  obtain ⟨z10, q10⟩ := rdv_fld Tryz.underlying53 hf hxl hw (i := 10) rfl (o := 20) rfl (ft := 22) rfl (k := 1) (by kernel_rfl) (rdv_int Tryz.underlying22)
  obtain ⟨z11, q11⟩ := rdv_fld Tryz.underlying53 hf hxl hw (i := 11) rfl (o := 21) rfl (ft := 51) rfl (k := 7) (by kernel_rfl) rdv51
  obtain ⟨z12, q12⟩ := rdv_fld Tryz.underlying53 hf hxl hw (i := 12) rfl (o := 28) rfl (ft := 9) rfl (k := 1) (by kernel_rfl) (rdv_str Tryz.underlying9)
  have e := (row_cut q0 (row_cut q1 (row_cut q2 (row_cut q3 (row_cut q4 (row_cut q5 (row_cut q6 (row_cut q7 (row_cut q8 (row_cut q9 (row_cut q10 (row_cut q11 (row_last (hcl.trans (by kernel_rfl)) q12)))))))))))))
  rw [List.drop_zero] at e
  exact ⟨(⟨z0, z1, z2, z3, z4, z5, z6, z7, z8, z9, z10, z11, z12⟩ : Go.SW.DeedR), e⟩
theorem rdvs26 : Rdv Tryz.prog 26 (fun xs : List Go.SW.DeedR => [Go.SW.PV.sl Go.SW.DeedR.pc xs]) 1 := rdv_slice Tryz.underlying26 (k := 29) (by kernel_rfl) (by decide) (of_decide_eq_true (by kernel_rfl)) rdv53
theorem rdv80 : Rdv Tryz.prog 80 Go.SW.ActR.pc 6 := fun Ht enc w base spare held fuel cs x h hw => by
  obtain ⟨xs, n, _, rfl, hcl, hxl, hf⟩ := DataW.trod_struct Tryz.underlying80 h
  obtain ⟨z0, q0⟩ := rdv_fld Tryz.underlying80 hf hxl hw (i := 0) rfl (o := 0) rfl (ft := 5) rfl (k := 1) (by kernel_rfl) (rdv_int Tryz.underlying5)
  obtain ⟨z1, q1⟩ := rdv_fld Tryz.underlying80 hf hxl hw (i := 1) rfl (o := 1) rfl (ft := 22) rfl (k := 1) (by kernel_rfl) (rdv_int Tryz.underlying22)
  obtain ⟨z2, q2⟩ := rdv_fld Tryz.underlying80 hf hxl hw (i := 2) rfl (o := 2) rfl (ft := 22) rfl (k := 1) (by kernel_rfl) (rdv_int Tryz.underlying22)
  obtain ⟨z3, q3⟩ := rdv_fld Tryz.underlying80 hf hxl hw (i := 3) rfl (o := 3) rfl (ft := 9) rfl (k := 1) (by kernel_rfl) (rdv_str Tryz.underlying9)
  obtain ⟨z4, q4⟩ := rdv_fld Tryz.underlying80 hf hxl hw (i := 4) rfl (o := 4) rfl (ft := 4) rfl (k := 1) (by kernel_rfl) (rdv_bool Tryz.underlying4)
  obtain ⟨z5, q5⟩ := rdv_fld Tryz.underlying80 hf hxl hw (i := 5) rfl (o := 5) rfl (ft := 26) rfl (k := 1) (by kernel_rfl) rdvs26
  have e := (row_cut q0 (row_cut q1 (row_cut q2 (row_cut q3 (row_cut q4 (row_last (hcl.trans (by kernel_rfl)) q5))))))
  rw [List.drop_zero] at e
  exact ⟨(⟨z0, z1, z2, z3, z4, z5⟩ : Go.SW.ActR), e⟩
theorem rdvs76 : Rdv Tryz.prog 76 (fun xs : List Go.SW.ActR => [Go.SW.PV.sl Go.SW.ActR.pc xs]) 1 := rdv_slice Tryz.underlying76 (k := 6) (by kernel_rfl) (by decide) (of_decide_eq_true (by kernel_rfl)) rdv80
theorem contract (H : Type) (enc : TypeId × Value → H) (W : World) (base : Nat) (args : Array Value) (ds gs : List (DataW H)) (before : List MemPlace)
    (hval0 : ∀ (j : Nat) t v, Tryz.f8.params[j]? = some t → args[j]? = some v → Value.okWide Tryz.prog W .any base t v)
    (hW : DataW.Whole enc Tryz.prog Tryz.f8.params.toList Rows.chansPlaySpec.vars false W args.toList ds gs before) (hWt : (DataW.weightsEach Tryz.prog (Tryz.f8.params.toList ++ (OpenSpec.ofChange Rows.chansPlaySpec).bare.plain.varTypes Tryz.prog) (ds ++ gs)).all (· ≤ reachBytes) = true) (hL : laidMetH Tryz.prog Rows.chansPlayRow.laid W) (hS : W.ShapedOpen Tryz.prog) :
    Calls Tryz.prog 8 args W fun e W' => ∃ v, e = .returned v ∧ Rows.chansPlaySpec.post enc Tryz.prog Tryz.f8 false true false false W args v W' := by
  have hL0 : laidMet Tryz.prog Rows.chansPlayRow.laid W := by
    rw [MakeChecks.laidMetH_plain _ _ _ (by kernel_rfl)] at hL
    exact hL
  have hW' := hW
  obtain ⟨p, q, hA0, hV, rfl, hfz, hnd⟩ := hW
  have hA : DataW.TrodAll enc Tryz.prog W 0 (fun _ => true) true Tryz.f8.params.toList args.toList ds p := hA0
  have hval := hval0
  rw [Tryz.params8] at hA hval
  obtain ⟨v0, vs0, d0, ds0, p0, q0, hargs, rfl, rfl, h0, r0⟩ := trodAll_cons hA
  obtain ⟨v1, vs1, d1, ds1, p1, q1, rfl, rfl, rfl, h1, r1⟩ := trodAll_cons r0
  obtain ⟨rfl, rfl, rfl⟩ := trodAll_nil r1
  obtain rfl : args = #[v0, v1] := by cases args; simp_all
  obtain ⟨rfl, rfl⟩ := trodVars_none hV
  obtain ⟨l, s0⟩ := arg_sl Tryz.underlying76 (hval 0 76 v0 rfl rfl) h0 (wt_arg (j := 0) (t := 76) hWt (by kernel_rfl) rfl) rdvs76
  obtain ⟨tick, s1⟩ := arg_int Tryz.underlying22 (hval 1 22 v1 rfl rfl) h1
  clear hA0 hval0
  have hML : GInt (hp W) 0 := gint_of_shape (t := 3) (zero := #[.int .i64 0]) hS (of_decide_eq_true (by kernel_rfl)) (by kernel_rfl) rfl (by kernel_rfl) (by kernel_rfl) Tryz.underlying3
  refine (law_run (vs := [v0, v1]) (Go.SW.V.l27_ChansPlay_ok l tick) (show Go.SW.V.gb.p (hp W) from hML) (Sims.cons s0 (Sims.cons s1 Sims.nil)) (Go.SW.V.l27_plays _ _ fun a ha => (s0.wf.2 a ha).2.1.1)).mono fun e W' ⟨he, hm⟩ => ?_
  subst he
  exact ⟨_, rfl, law_post (s := Rows.chansPlaySpec) rfl hW' (mem0_below hm) laidOut (params_ok (ts := Tryz.f8.params) (by kernel_rfl)) (tb := 4) rfl Tryz.underlying4 rfl⟩
/-- A world for the witness: the settled one, the listed variables holding what their initialisers lay. -/
theorem laid_met (os : Os) : laidMet Tryz.prog Rows.chansPlayRow.laid ((laidW Tryz.prog os [(2, Rows.laid_unicode_utf8_acceptRanges), (1, Rows.laid_unicode_utf8_first)]).forCall (fun _ _ => 0) ⟨#[], #[.slice none 0 0, .int .u64 0], []⟩).memory :=
  laidMet_of_run' 8 (by kernel_rfl) (by kernel_rfl)
theorem reads (os : Os) {H : Type} (enc : TypeId × Value → H) : ∃ places, DataW.whole enc Tryz.prog ((laidW Tryz.prog os [(2, Rows.laid_unicode_utf8_acceptRanges), (1, Rows.laid_unicode_utf8_first)]).forCall (fun _ _ => 0) ⟨#[], #[.slice none 0 0, .int .u64 0], []⟩).memory Tryz.f8.params.toList Rows.chansPlaySpec.vars false (#[.slice none 0 0, .int .u64 0] : Array Value).toList 8 = some ([.nil, .lit (.int .u64 0)], [], places) :=
  ⟨[], by kernel_rfl⟩
theorem lifted (os : Os) (started : os.Started) (H : Type) (enc : TypeId × Value → H) (F : Stop.Interp) :
    ReturnsInHanded {} Tryz.checked os 8 .any ((OpenSpec.ofChange Rows.chansPlaySpec).preRow enc Tryz.prog Tryz.f8 Rows.chansPlayRow.domain false Rows.chansPlayRow.laid) (((OpenSpec.ofChange Rows.chansPlaySpec).at F).post enc Tryz.prog Tryz.f8 false true false false) := by
  obtain ⟨places, hx⟩ := reads os enc
  refine returnsInHanded_of_row (C := Tryz.checked) (s := OpenSpec.ofChange Rows.chansPlaySpec) own started (by kernel_rfl) Tryz.func8
    (witness_row_at (enc := enc) (C := Tryz.checked) false (laidW Tryz.prog os [(2, Rows.laid_unicode_utf8_acceptRanges), (1, Rows.laid_unicode_utf8_first)]) #[.slice none 0 0, .int .u64 0] rfl (by kernel_rfl) (by kernel_rfl) (by kernel_rfl)
      (OpenSpec.preRow_of_cond 8 hx (by kernel_rfl) (fun k hk => by cases hk) (by kernel_rfl) (laid_met os))) ?_
  intro W base args ds gs before hval hW _ _ hWt hL hS _
  exact contract H enc W base args ds gs before hval hW hWt hL hS
theorem closed : joinedFacts Tryz.pinned.checked.prog 8 Tryz.f8 (OpenSpec.ofChange Rows.chansPlaySpec).bare Rows.chansPlayRow = true := by
  unfold joinedFacts
  simp only [Bool.and_eq_true]
  repeat' (refine And.intro ?_ ?_)
  all_goals (as_aux_lemma => kernel_rfl)
theorem said : Rows.ChansPlaySaid :=
  OpenClaim.holds_of_cond 8 Tryz.f8 rfl rfl rfl rfl rfl rfl rfl ⟨rfl, rfl, rfl, rfl, rfl⟩ rfl rfl rfl rfl rfl (by as_aux_lemma => kernel_rfl) Tryz.func8 closed
    (of_decide_eq_true (by as_aux_lemma => kernel_rfl)) (by unfold Func.isWrapper; first | (rw [if_pos (by decide +kernel)]; kernel_rfl) | (rw [if_neg (by decide +kernel)]; exact ⟨rfl, rfl⟩))
    (fun os started H enc _ F => by rw [OpenClaim.pre_eq_preRow]; exact lifted os started H enc F)
theorem plain (f : FuncId) (fn : Func) (hf : Tryz.pinned.checked.prog.funcNamed "stairwell/stairwelllaw27.ChansPlay" = some f) (hfn : Tryz.pinned.checked.prog.funcs[f]? = some fn) :
    false = Tryz.pinned.checked.prog.looks [] ∧ ∀ (j : Nat) t, fn.params[j]? = some t → Tryz.pinned.checked.prog.wantsStandIn t = false := by
  obtain rfl : f = 8 := Option.some.inj ((show Tryz.prog.funcNamed "stairwell/stairwelllaw27.ChansPlay" = some 8 by kernel_rfl).symm.trans hf) |>.symm
  obtain rfl : fn = Tryz.f8 := (Option.some.inj (Tryz.func8.symm.trans hfn)).symm
  refine ⟨by as_aux_lemma => kernel_rfl, fun j t ht => ?_⟩
  rw [Tryz.params8] at ht
  have hm : t ∈ [76, 22] := by simpa using Array.mem_of_getElem? ht
  have hall : ([76, 22].all fun u => !Tryz.prog.wantsStandIn u) = true := by kernel_rfl
  exact (show Tryz.prog.wantsStandIn t = false by simpa using List.all_eq_true.1 hall t hm)
theorem card : Rows.ChansPlayCardSaid :=
  Claim7.holds_tied_plain_at .later [] _ _ _ _ said (fun _ h => by cases h) (by as_aux_lemma => kernel_rfl) (fun _ h => by cases h) chansPlay_row_tie rfl ⟨rfl, rfl⟩ (by as_aux_lemma => kernel_rfl) rfl plain (by as_aux_lemma => kernel_rfl)
#print axioms card
end Go.Proofs.YtdkpbleeehmhjaaGreatDoor.chansPlay
