/-
  ReplyFrames: for every input the law returns true, and its arguments read as they did; the card, its listed variables tied to the program's text.
  Conditions: the listed package-level variables hold what the program's own text lays in them.
-/
import Derived.Test.YtfchllcmfnhlbaaDoorReplyFramesP8
import Derived.Test.YtfchllcmfnhlbaaDoorCards
import Derived.Test.YtfchllcmfnhlbaaDoorTie
import Derived.Deep.DeepHandedRow
import Derived.Deep.DeepWitnessRowRef
import Derived.Stop.LaidErr
import Derived.KernelRfl
set_option linter.unusedVariables false
set_option linter.unusedSimpArgs false

set_option linter.unusedVariables false
set_option maxRecDepth 100000
namespace Go.Proofs.YtfchllcmfnhlbaaDoor.replyFrames
open Go.ChangeShapes Go.WideShapes Go.ChangeAt Go.RowKit Go.SW Go.Proofs

theorem own : ownKnob Tryd.prog.godebug = none := by kernel_rfl
theorem laidOut : laidOutB Tryd.prog = true := by kernel_rfl
theorem rd94 {Ht : Type} {enc : TypeId × Value → Ht} {w : World} {base fuel : Nat} {spare : Nat → Bool} {held : Bool} {cs : List Value} {x : DataW Ht × List MemPlace} (h : DataW.trod enc Tryd.prog w base spare held fuel 94 cs = some x) : ∃ (r : Go.SW.Pair), cs = Go.SW.Pair.cells r ∧ Go.SW.Pair.wf r := by
  obtain ⟨xs, n, _, _, hcl, hxl, hf⟩ := DataW.trod_struct Tryd.underlying94 h
  obtain ⟨y0, q0⟩ := rd_fld hf hxl (i := 0) rfl (o := 0) rfl (ft := 9) rfl (k := 1) (by kernel_rfl)
  obtain ⟨z0, e0, w0⟩ := rd_str Tryd.underlying9 q0
  obtain ⟨y1, q1⟩ := rd_fld hf hxl (i := 1) rfl (o := 1) rfl (ft := 5) rfl (k := 1) (by kernel_rfl)
  obtain ⟨z1, e1, w1⟩ := rd_u8 Tryd.underlying5 q1
  obtain ⟨y2, q2⟩ := rd_fld hf hxl (i := 2) rfl (o := 2) rfl (ft := 2) rfl (k := 1) (by kernel_rfl)
  obtain ⟨z2, e2, w2⟩ := rd_i64 Tryd.underlying2 q2
  obtain ⟨y3, q3⟩ := rd_fld hf hxl (i := 3) rfl (o := 3) rfl (ft := 9) rfl (k := 1) (by kernel_rfl)
  obtain ⟨z3, e3, w3⟩ := rd_str Tryd.underlying9 q3
  have e := (cs_step e0 (cs_step e1 (cs_step e2 (cs_last (hcl.trans (by kernel_rfl)) e3))))
  rw [List.drop_zero] at e
  refine ⟨(⟨z0, z1, z2, z3⟩ : Go.SW.Pair), e, ?_⟩
  simp only [Go.SW.Pair.wf]
  refine ⟨by omega, by omega, by omega, by omega⟩
theorem rs23 {Ht : Type} {enc : TypeId × Value → Ht} {w : World} {base fuel : Nat} {spare : Nat → Bool} {held : Bool} {cs : List Value} {x : DataW Ht × List MemPlace} (h : DataW.trod enc Tryd.prog w base spare held fuel 23 cs = some x) : ∃ (a : Option Addr) (c : Nat) (rs : List Go.SW.Pair), cs = [.slice a rs.length c] ∧ SlH pairE 4 (hp w) (.slice a rs.length c) rs ∧ rs.length ≤ 9223372036854775807 :=
  rd_slice Tryd.underlying23 (by kernel_rfl) (by decide) (fun fuel cs x h => by obtain ⟨r, e, w⟩ := rd94 h; exact ⟨r, ⟨e, w⟩⟩) h
theorem rd25 {Ht : Type} {enc : TypeId × Value → Ht} {w : World} {base fuel : Nat} {spare : Nat → Bool} {held : Bool} {cs : List Value} {x : DataW Ht × List MemPlace} (h : DataW.trod enc Tryd.prog w base spare held fuel 25 cs = some x) : ∃ (r : Go.SW.Mail) (a_head : Option Addr) (c_head : Nat), cs = Go.SW.Mail.cells r a_head c_head ∧ Go.SW.Mail.wf r ∧ SlH pairE 4 (hp w) (.slice a_head r.head.length c_head) r.head := by
  obtain ⟨xs, n, _, _, hcl, hxl, hf⟩ := DataW.trod_struct Tryd.underlying25 h
  obtain ⟨y0, q0⟩ := rd_fld hf hxl (i := 0) rfl (o := 0) rfl (ft := 22) rfl (k := 1) (by kernel_rfl)
  obtain ⟨z0, e0, w0⟩ := rd_u64 Tryd.underlying22 q0
  obtain ⟨y1, q1⟩ := rd_fld hf hxl (i := 1) rfl (o := 1) rfl (ft := 9) rfl (k := 1) (by kernel_rfl)
  obtain ⟨z1, e1, w1⟩ := rd_str Tryd.underlying9 q1
  obtain ⟨y2, q2⟩ := rd_fld hf hxl (i := 2) rfl (o := 2) rfl (ft := 9) rfl (k := 1) (by kernel_rfl)
  obtain ⟨z2, e2, w2⟩ := rd_str Tryd.underlying9 q2
  obtain ⟨y3, q3⟩ := rd_fld hf hxl (i := 3) rfl (o := 3) rfl (ft := 23) rfl (k := 1) (by kernel_rfl)
  obtain ⟨a3, c3, z3, e3, s3, w3⟩ := rs23 q3
  obtain ⟨y4, q4⟩ := rd_fld hf hxl (i := 4) rfl (o := 4) rfl (ft := 9) rfl (k := 1) (by kernel_rfl)
  obtain ⟨z4, e4, w4⟩ := rd_str Tryd.underlying9 q4
  obtain ⟨y5, q5⟩ := rd_fld hf hxl (i := 5) rfl (o := 5) rfl (ft := 22) rfl (k := 1) (by kernel_rfl)
  obtain ⟨z5, e5, w5⟩ := rd_u64 Tryd.underlying22 q5
  obtain ⟨y6, q6⟩ := rd_fld hf hxl (i := 6) rfl (o := 6) rfl (ft := 5) rfl (k := 1) (by kernel_rfl)
  obtain ⟨z6, e6, w6⟩ := rd_u8 Tryd.underlying5 q6
  have e := (cs_step e0 (cs_step e1 (cs_step e2 (cs_step e3 (cs_step e4 (cs_step e5 (cs_last (hcl.trans (by kernel_rfl)) e6)))))))
  rw [List.drop_zero] at e
  refine ⟨(⟨z0, z1, z2, z3, z4, z5, z6⟩ : Go.SW.Mail), a3, c3, e, ?_, s3⟩
  simp only [Go.SW.Mail.wf]
  refine ⟨by omega, by omega, by omega, by omega, by omega, by omega, by omega⟩
theorem rd27 {Ht : Type} {enc : TypeId × Value → Ht} {w : World} {base fuel : Nat} {spare : Nat → Bool} {held : Bool} {cs : List Value} {x : DataW Ht × List MemPlace} (h : DataW.trod enc Tryd.prog w base spare held fuel 27 cs = some x) : ∃ (r : Go.SW.Reply) (a_mail_head : Option Addr) (c_mail_head : Nat), cs = Go.SW.Reply.cells r a_mail_head c_mail_head ∧ Go.SW.Reply.wf r ∧ SlH pairE 4 (hp w) (.slice a_mail_head r.mail.head.length c_mail_head) r.mail.head := by
  obtain ⟨xs, n, _, _, hcl, hxl, hf⟩ := DataW.trod_struct Tryd.underlying27 h
  obtain ⟨y0, q0⟩ := rd_fld hf hxl (i := 0) rfl (o := 0) rfl (ft := 5) rfl (k := 1) (by kernel_rfl)
  obtain ⟨z0, e0, w0⟩ := rd_u8 Tryd.underlying5 q0
  obtain ⟨y1, q1⟩ := rd_fld hf hxl (i := 1) rfl (o := 1) rfl (ft := 5) rfl (k := 1) (by kernel_rfl)
  obtain ⟨z1, e1, w1⟩ := rd_u8 Tryd.underlying5 q1
  obtain ⟨y2, q2⟩ := rd_fld hf hxl (i := 2) rfl (o := 2) rfl (ft := 22) rfl (k := 1) (by kernel_rfl)
  obtain ⟨z2, e2, w2⟩ := rd_u64 Tryd.underlying22 q2
  obtain ⟨y3, q3⟩ := rd_fld hf hxl (i := 3) rfl (o := 3) rfl (ft := 22) rfl (k := 1) (by kernel_rfl)
  obtain ⟨z3, e3, w3⟩ := rd_u64 Tryd.underlying22 q3
  obtain ⟨y4, q4⟩ := rd_fld hf hxl (i := 4) rfl (o := 4) rfl (ft := 4) rfl (k := 1) (by kernel_rfl)
  obtain ⟨z4, e4⟩ := rd_bool Tryd.underlying4 q4
  obtain ⟨y5, q5⟩ := rd_fld hf hxl (i := 5) rfl (o := 5) rfl (ft := 9) rfl (k := 1) (by kernel_rfl)
  obtain ⟨z5, e5, w5⟩ := rd_str Tryd.underlying9 q5
  obtain ⟨y6, q6⟩ := rd_fld hf hxl (i := 6) rfl (o := 6) rfl (ft := 25) rfl (k := 7) (by kernel_rfl)
  obtain ⟨z6, a6_head, c6_head, e6, w6, s6_head⟩ := rd25 q6
  simp only [Go.SW.Mail.wf] at w6
  have e := (cs_step e0 (cs_step e1 (cs_step e2 (cs_step e3 (cs_step e4 (cs_step e5 (cs_last (hcl.trans (by kernel_rfl)) e6)))))))
  rw [List.drop_zero] at e
  refine ⟨(⟨z0, z1, z2, z3, z4, z5, z6⟩ : Go.SW.Reply), a6_head, c6_head, e, ?_, s6_head⟩
  simp only [Go.SW.Reply.wf, Go.SW.Mail.wf]
  refine ⟨by omega, by omega, by omega, by omega, by omega, by omega, by omega, by omega, by omega, by omega, by omega, by omega⟩

theorem contract (H : Type) (enc : TypeId × Value → H) (W : World) (base : Nat) (args : Array Value) (ds gs : List (DataW H)) (before : List MemPlace)
    (hval0 : ∀ (j : Nat) t v, Tryd.f5.params[j]? = some t → args[j]? = some v → Value.okWide Tryd.prog W .any base t v)
    (hW : DataW.Whole enc Tryd.prog Tryd.f5.params.toList Rows.replyFramesSpec.vars false W args.toList ds gs before) (hL : laidMetH Tryd.prog Rows.replyFramesRow.laid W) (hS : W.ShapedOpen Tryd.prog) :
    Calls Tryd.prog 5 args W fun e W' => ∃ v, e = .returned v ∧ Rows.replyFramesSpec.post enc Tryd.prog Tryd.f5 false true false false W args v W' := by
  have hL0 : laidMet Tryd.prog Rows.replyFramesRow.laid W := by
    rw [MakeChecks.laidMetH_plain _ _ _ (by kernel_rfl)] at hL
    exact hL
  have hW' := hW
  obtain ⟨p, q, hA0, hV, rfl, hfz, hnd⟩ := hW
  have hA : DataW.TrodAll enc Tryd.prog W 0 (fun _ => true) true Tryd.f5.params.toList args.toList ds p := hA0
  have hval := hval0
  rw [Tryd.params5] at hA hval
  obtain ⟨v0, vs0, d0, ds0, p0, q0, hargs, rfl, rfl, h0, r0⟩ := trodAll_cons hA
  obtain ⟨rfl, rfl, rfl⟩ := trodAll_nil r0
  obtain rfl : args = #[v0] := by cases args; simp_all
  obtain ⟨rfl, rfl⟩ := trodVars_none hV
  obtain ⟨l0, fu0, rfl, g0⟩ := rd_agg Tryd.underlying27 (hval 0 27 v0 rfl rfl) h0
  obtain ⟨r, r_mail_head_a, r_mail_head_c, rfl, r_w, r_mail_head_h⟩ := rd27 g0
  clear hA0 hval0
  have hML : GInt (hp W) 2 := gint_of_shape (t := 3) (zero := #[.int .i64 0]) hS (of_decide_eq_true (by kernel_rfl)) (by kernel_rfl) rfl (by kernel_rfl) (by kernel_rfl) Tryd.underlying3
  have hCrc : GTab (hp W) 1 laidT := gtab_of (g := 1) (n := 16) (by kernel_rfl) (by kernel_rfl) Tryd.underlying164 Tryd.underlying135 (by kernel_rfl) (by kernel_rfl) hL0
  refine (reply_law_Frames _ r r_mail_head_a r_mail_head_c r_mail_head_h r_w hML hCrc (rest0 W) l0 W (mem0 W)).mono fun e W' ⟨he, hm⟩ => ?_
  subst he
  exact ⟨_, rfl, law_post (s := Rows.replyFramesSpec) rfl hW' (mem0_below hm) laidOut (params_ok (ts := Tryd.f5.params) (by kernel_rfl)) (tb := 4) rfl Tryd.underlying4 rfl⟩

/-- A world for the witness: the settled one, the listed variables holding what their initialisers lay. -/
theorem laid_met (os : Os) : laidMet Tryd.prog Rows.replyFramesRow.laid ((laidW Tryd.prog os [(1, Rows.laid_stairwell_crc_laid), (4, Rows.laid_unicode_utf8_acceptRanges), (3, Rows.laid_unicode_utf8_first)]).forCall (fun _ _ => 0) ⟨#[], #[.agg #[.int .u8 0, .int .u8 0, .int .u64 0, .int .u64 0, .bool false, .string ⟨#[]⟩, .int .u64 0, .string ⟨#[]⟩, .string ⟨#[]⟩, .slice none 0 0, .string ⟨#[]⟩, .int .u64 0, .int .u8 0]], []⟩).memory :=
  laidMet_of_run' 8 (by kernel_rfl) (by kernel_rfl)
theorem reads (os : Os) {H : Type} (enc : TypeId × Value → H) : ∃ places, DataW.whole enc Tryd.prog ((laidW Tryd.prog os [(1, Rows.laid_stairwell_crc_laid), (4, Rows.laid_unicode_utf8_acceptRanges), (3, Rows.laid_unicode_utf8_first)]).forCall (fun _ _ => 0) ⟨#[], #[.agg #[.int .u8 0, .int .u8 0, .int .u64 0, .int .u64 0, .bool false, .string ⟨#[]⟩, .int .u64 0, .string ⟨#[]⟩, .string ⟨#[]⟩, .slice none 0 0, .string ⟨#[]⟩, .int .u64 0, .int .u8 0]], []⟩).memory Tryd.f5.params.toList Rows.replyFramesSpec.vars false (#[.agg #[.int .u8 0, .int .u8 0, .int .u64 0, .int .u64 0, .bool false, .string ⟨#[]⟩, .int .u64 0, .string ⟨#[]⟩, .string ⟨#[]⟩, .slice none 0 0, .string ⟨#[]⟩, .int .u64 0, .int .u8 0]] : Array Value).toList 8 = some ([.agg [.lit (.int .u8 0), .lit (.int .u8 0), .lit (.int .u64 0), .lit (.int .u64 0), .lit (.bool false), .lit (.string []), .agg [.lit (.int .u64 0), .lit (.string []), .lit (.string []), .nil, .lit (.string []), .lit (.int .u64 0), .lit (.int .u8 0)]]], [], places) :=
  ⟨[], by kernel_rfl⟩

theorem lifted (os : Os) (started : os.Started) (H : Type) (enc : TypeId × Value → H) (F : Stop.Interp) :
    ReturnsInHanded {} Tryd.checked os 5 .any ((OpenSpec.ofChange Rows.replyFramesSpec).preRow enc Tryd.prog Tryd.f5 Rows.replyFramesRow.domain false Rows.replyFramesRow.laid) (((OpenSpec.ofChange Rows.replyFramesSpec).at F).post enc Tryd.prog Tryd.f5 false true false false) := by
  obtain ⟨places, hx⟩ := reads os enc
  refine returnsInHanded_of_row (C := Tryd.checked) (s := OpenSpec.ofChange Rows.replyFramesSpec) own started (by kernel_rfl) Tryd.func5
    (witness_row_at (enc := enc) (C := Tryd.checked) false (laidW Tryd.prog os [(1, Rows.laid_stairwell_crc_laid), (4, Rows.laid_unicode_utf8_acceptRanges), (3, Rows.laid_unicode_utf8_first)]) #[.agg #[.int .u8 0, .int .u8 0, .int .u64 0, .int .u64 0, .bool false, .string ⟨#[]⟩, .int .u64 0, .string ⟨#[]⟩, .string ⟨#[]⟩, .slice none 0 0, .string ⟨#[]⟩, .int .u64 0, .int .u8 0]] rfl (by kernel_rfl) (by kernel_rfl) (by kernel_rfl)
      (OpenSpec.preRow_of_cond 8 hx (by kernel_rfl) (fun k hk => by cases hk) (by kernel_rfl) (laid_met os))) ?_
  intro W base args ds gs before hval hW _ _ _ hL hS _
  exact contract H enc W base args ds gs before hval hW hL hS

theorem said : Rows.ReplyFramesSaid :=
  OpenClaim.holds_of_cond 5 Tryd.f5 rfl rfl rfl rfl rfl rfl rfl ⟨rfl, rfl, rfl, rfl, rfl⟩ rfl rfl rfl rfl rfl (by kernel_rfl) Tryd.func5 (by kernel_rfl)
    (of_decide_eq_true (by kernel_rfl)) (by unfold Func.isWrapper; first | (rw [if_pos (by decide +kernel)]; kernel_rfl) | (rw [if_neg (by decide +kernel)]; exact ⟨rfl, rfl⟩))
    (fun os started H enc _ F => by rw [OpenClaim.pre_eq_preRow]; exact lifted os started H enc F)

theorem plain (f : FuncId) (fn : Func) (hf : Tryd.pinned.checked.prog.funcNamed "stairwell/stairwelllaw12.ReplyFrames" = some f) (hfn : Tryd.pinned.checked.prog.funcs[f]? = some fn) :
    false = Tryd.pinned.checked.prog.looks [] ∧ ∀ (j : Nat) t, fn.params[j]? = some t → Tryd.pinned.checked.prog.wantsStandIn t = false := by
  obtain rfl : f = 5 := Option.some.inj ((show Tryd.prog.funcNamed "stairwell/stairwelllaw12.ReplyFrames" = some 5 by kernel_rfl).symm.trans hf) |>.symm
  obtain rfl : fn = Tryd.f5 := (Option.some.inj (Tryd.func5.symm.trans hfn)).symm
  refine ⟨by kernel_rfl, fun j t ht => ?_⟩
  rw [Tryd.params5] at ht
  have hm : t ∈ [27] := by simpa using Array.mem_of_getElem? ht
  have hall : ([27].all fun u => !Tryd.prog.wantsStandIn u) = true := by kernel_rfl
  exact (show Tryd.prog.wantsStandIn t = false by simpa using List.all_eq_true.1 hall t hm)

theorem card : Rows.ReplyFramesCardSaid :=
  Claim7.holds_tied_plain_at .later [] _ _ _ _ said (fun _ h => by cases h) (by kernel_rfl) (fun _ h => by cases h) replyFrames_row_tie rfl ⟨rfl, rfl⟩ (by kernel_rfl) rfl plain (by kernel_rfl)
#print axioms card
end Go.Proofs.YtfchllcmfnhlbaaDoor.replyFrames
