/-
  ReplyReads: for every input the law returns true, and its arguments read as they did; the card, its listed variables tied to the program's text.
  Conditions: the listed package-level variables hold what the program's own text lays in them.
-/
import Derived.Test.YtfchllcmfnhlbaaDoorReplyReadsP7
import Derived.Test.YtfchllcmfnhlbaaDoorCards
import Derived.Test.YtfchllcmfnhlbaaDoorTie
import Derived.Deep.DeepHandedRow
import Derived.Deep.DeepWitnessRowRef
import Derived.Stop.LaidErr
import Derived.KernelRfl
set_option linter.unusedVariables false
set_option linter.unusedSimpArgs false

set_option linter.unusedVariables false
set_option maxRecDepth 100000
namespace Go.Proofs.YtfchllcmfnhlbaaDoor.replyReads
open Go.ChangeShapes Go.WideShapes Go.ChangeAt Go.RowKit Go.SW Go.Proofs

theorem own : ownKnob Tryd.prog.godebug = none := by kernel_rfl
theorem laidOut : laidOutB Tryd.prog = true := by kernel_rfl
theorem rd35 {Ht : Type} {enc : TypeId × Value → Ht} {w : World} {base fuel : Nat} {spare : Nat → Bool} {held : Bool} {cs : List Value} {x : DataW Ht × List MemPlace} (h : DataW.trod enc Tryd.prog w base spare held fuel 35 cs = some x) : ∃ (r : Go.SW.Frame), cs = Go.SW.Frame.cells r ∧ Go.SW.Frame.wf r := by
  obtain ⟨xs, n, _, _, hcl, hxl, hf⟩ := DataW.trod_struct Tryd.underlying35 h
  obtain ⟨y0, q0⟩ := rd_fld hf hxl (i := 0) rfl (o := 0) rfl (ft := 5) rfl (k := 1) (by kernel_rfl)
  obtain ⟨z0, e0, w0⟩ := rd_u8 Tryd.underlying5 q0
  obtain ⟨y1, q1⟩ := rd_fld hf hxl (i := 1) rfl (o := 1) rfl (ft := 5) rfl (k := 1) (by kernel_rfl)
  obtain ⟨z1, e1, w1⟩ := rd_u8 Tryd.underlying5 q1
  obtain ⟨y2, q2⟩ := rd_fld hf hxl (i := 2) rfl (o := 2) rfl (ft := 9) rfl (k := 1) (by kernel_rfl)
  obtain ⟨z2, e2, w2⟩ := rd_str Tryd.underlying9 q2
  have e := (cs_step e0 (cs_step e1 (cs_last (hcl.trans (by kernel_rfl)) e2)))
  rw [List.drop_zero] at e
  refine ⟨(⟨z0, z1, z2⟩ : Go.SW.Frame), e, ?_⟩
  simp only [Go.SW.Frame.wf]
  refine ⟨by omega, by omega, by omega⟩

theorem contract (H : Type) (enc : TypeId × Value → H) (W : World) (base : Nat) (args : Array Value) (ds gs : List (DataW H)) (before : List MemPlace)
    (hval0 : ∀ (j : Nat) t v, Tryd.f4.params[j]? = some t → args[j]? = some v → Value.okWide Tryd.prog W .any base t v)
    (hW : DataW.Whole enc Tryd.prog Tryd.f4.params.toList Rows.replyReadsSpec.vars false W args.toList ds gs before) (hL : laidMetH Tryd.prog Rows.replyReadsRow.laid W) (hS : W.ShapedOpen Tryd.prog) :
    Calls Tryd.prog 4 args W fun e W' => ∃ v, e = .returned v ∧ Rows.replyReadsSpec.post enc Tryd.prog Tryd.f4 false true false false W args v W' := by
  have hL0 : laidMet Tryd.prog Rows.replyReadsRow.laid W := by
    rw [MakeChecks.laidMetH_plain _ _ _ (by kernel_rfl)] at hL
    exact hL
  have hW' := hW
  obtain ⟨p, q, hA0, hV, rfl, hfz, hnd⟩ := hW
  have hA : DataW.TrodAll enc Tryd.prog W 0 (fun _ => true) true Tryd.f4.params.toList args.toList ds p := hA0
  have hval := hval0
  rw [Tryd.params4] at hA hval
  obtain ⟨v0, vs0, d0, ds0, p0, q0, hargs, rfl, rfl, h0, r0⟩ := trodAll_cons hA
  obtain ⟨rfl, rfl, rfl⟩ := trodAll_nil r0
  obtain rfl : args = #[v0] := by cases args; simp_all
  obtain ⟨rfl, rfl⟩ := trodVars_none hV
  obtain ⟨l0, fu0, rfl, g0⟩ := rd_agg Tryd.underlying35 (hval 0 35 v0 rfl rfl) h0
  obtain ⟨f, rfl, f_w⟩ := rd35 g0
  clear hA0 hval0
  have hML : GInt (hp W) 2 := gint_of_shape (t := 3) (zero := #[.int .i64 0]) hS (of_decide_eq_true (by kernel_rfl)) (by kernel_rfl) rfl (by kernel_rfl) (by kernel_rfl) Tryd.underlying3
  have hCrc : GTab (hp W) 1 laidT := gtab_of (g := 1) (n := 16) (by kernel_rfl) (by kernel_rfl) Tryd.underlying164 Tryd.underlying135 (by kernel_rfl) (by kernel_rfl) hL0
  refine (reply_law_Reads _ f f_w hML hCrc (rest0 W) l0 W (mem0 W)).mono fun e W' ⟨he, hm⟩ => ?_
  subst he
  exact ⟨_, rfl, law_post (s := Rows.replyReadsSpec) rfl hW' (mem0_below hm) laidOut (params_ok (ts := Tryd.f4.params) (by kernel_rfl)) (tb := 4) rfl Tryd.underlying4 rfl⟩

/-- A world for the witness: the settled one, the listed variables holding what their initialisers lay. -/
theorem laid_met (os : Os) : laidMet Tryd.prog Rows.replyReadsRow.laid ((laidW Tryd.prog os [(1, Rows.laid_stairwell_crc_laid), (4, Rows.laid_unicode_utf8_acceptRanges), (3, Rows.laid_unicode_utf8_first)]).forCall (fun _ _ => 0) ⟨#[], #[.agg #[.int .u8 0, .int .u8 0, .string ⟨#[]⟩]], []⟩).memory :=
  laidMet_of_run' 8 (by kernel_rfl) (by kernel_rfl)
theorem reads (os : Os) {H : Type} (enc : TypeId × Value → H) : ∃ places, DataW.whole enc Tryd.prog ((laidW Tryd.prog os [(1, Rows.laid_stairwell_crc_laid), (4, Rows.laid_unicode_utf8_acceptRanges), (3, Rows.laid_unicode_utf8_first)]).forCall (fun _ _ => 0) ⟨#[], #[.agg #[.int .u8 0, .int .u8 0, .string ⟨#[]⟩]], []⟩).memory Tryd.f4.params.toList Rows.replyReadsSpec.vars false (#[.agg #[.int .u8 0, .int .u8 0, .string ⟨#[]⟩]] : Array Value).toList 8 = some ([.agg [.lit (.int .u8 0), .lit (.int .u8 0), .lit (.string [])]], [], places) :=
  ⟨[], by kernel_rfl⟩

theorem lifted (os : Os) (started : os.Started) (H : Type) (enc : TypeId × Value → H) (F : Stop.Interp) :
    ReturnsInHanded {} Tryd.checked os 4 .any ((OpenSpec.ofChange Rows.replyReadsSpec).preRow enc Tryd.prog Tryd.f4 Rows.replyReadsRow.domain false Rows.replyReadsRow.laid) (((OpenSpec.ofChange Rows.replyReadsSpec).at F).post enc Tryd.prog Tryd.f4 false true false false) := by
  obtain ⟨places, hx⟩ := reads os enc
  refine returnsInHanded_of_row (C := Tryd.checked) (s := OpenSpec.ofChange Rows.replyReadsSpec) own started (by kernel_rfl) Tryd.func4
    (witness_row_at (enc := enc) (C := Tryd.checked) false (laidW Tryd.prog os [(1, Rows.laid_stairwell_crc_laid), (4, Rows.laid_unicode_utf8_acceptRanges), (3, Rows.laid_unicode_utf8_first)]) #[.agg #[.int .u8 0, .int .u8 0, .string ⟨#[]⟩]] rfl (by kernel_rfl) (by kernel_rfl) (by kernel_rfl)
      (OpenSpec.preRow_of_cond 8 hx (by kernel_rfl) (fun k hk => by cases hk) (by kernel_rfl) (laid_met os))) ?_
  intro W base args ds gs before hval hW _ _ _ hL hS _
  exact contract H enc W base args ds gs before hval hW hL hS

theorem said : Rows.ReplyReadsSaid :=
  OpenClaim.holds_of_cond 4 Tryd.f4 rfl rfl rfl rfl rfl rfl rfl ⟨rfl, rfl, rfl, rfl, rfl⟩ rfl rfl rfl rfl rfl (by kernel_rfl) Tryd.func4 (by kernel_rfl)
    (of_decide_eq_true (by kernel_rfl)) (by unfold Func.isWrapper; first | (rw [if_pos (by decide +kernel)]; kernel_rfl) | (rw [if_neg (by decide +kernel)]; exact ⟨rfl, rfl⟩))
    (fun os started H enc _ F => by rw [OpenClaim.pre_eq_preRow]; exact lifted os started H enc F)

theorem plain (f : FuncId) (fn : Func) (hf : Tryd.pinned.checked.prog.funcNamed "stairwell/stairwelllaw12.ReplyReads" = some f) (hfn : Tryd.pinned.checked.prog.funcs[f]? = some fn) :
    false = Tryd.pinned.checked.prog.looks [] ∧ ∀ (j : Nat) t, fn.params[j]? = some t → Tryd.pinned.checked.prog.wantsStandIn t = false := by
  obtain rfl : f = 4 := Option.some.inj ((show Tryd.prog.funcNamed "stairwell/stairwelllaw12.ReplyReads" = some 4 by kernel_rfl).symm.trans hf) |>.symm
  obtain rfl : fn = Tryd.f4 := (Option.some.inj (Tryd.func4.symm.trans hfn)).symm
  refine ⟨by kernel_rfl, fun j t ht => ?_⟩
  rw [Tryd.params4] at ht
  have hm : t ∈ [35] := by simpa using Array.mem_of_getElem? ht
  have hall : ([35].all fun u => !Tryd.prog.wantsStandIn u) = true := by kernel_rfl
  exact (show Tryd.prog.wantsStandIn t = false by simpa using List.all_eq_true.1 hall t hm)

theorem card : Rows.ReplyReadsCardSaid :=
  Claim7.holds_tied_plain_at .later [] _ _ _ _ said (fun _ h => by cases h) (by kernel_rfl) (fun _ h => by cases h) replyReads_row_tie rfl ⟨rfl, rfl⟩ (by kernel_rfl) rfl plain (by kernel_rfl)
#print axioms card
end Go.Proofs.YtfchllcmfnhlbaaDoor.replyReads
