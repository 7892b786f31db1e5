/-
  MethodSame: for every input the law returns true, and its arguments read as they did; the card, its listed variables tied to the program's text.
  Conditions: the listed package-level variables hold what the program's own text lays in them.
-/
import Derived.Test.YtfchllcmfnhlbaaDoorMethodSameP5
import Derived.Test.YtfchllcmfnhlbaaDoorCards
import Derived.Test.YtfchllcmfnhlbaaDoorTie
import Derived.Deep.DeepHandedRow
import Derived.Deep.DeepWitnessRowRef
import Derived.Stop.LaidErr
import Derived.KernelRfl
set_option linter.unusedVariables false
set_option linter.unusedSimpArgs false

set_option linter.unusedVariables false
set_option maxRecDepth 100000
namespace Go.Proofs.YtfchllcmfnhlbaaDoor.methodSame
open Go.ChangeShapes Go.WideShapes Go.ChangeAt Go.RowKit Go.SW Go.Proofs

theorem own : ownKnob Tryd.prog.godebug = none := by kernel_rfl
theorem laidOut : laidOutB Tryd.prog = true := by kernel_rfl
theorem rd94 {Ht : Type} {enc : TypeId × Value → Ht} {w : World} {base fuel : Nat} {spare : Nat → Bool} {held : Bool} {cs : List Value} {x : DataW Ht × List MemPlace} (h : DataW.trod enc Tryd.prog w base spare held fuel 94 cs = some x) : ∃ (r : Go.SW.Pair), cs = Go.SW.Pair.cells r ∧ Go.SW.Pair.wf r := by
  obtain ⟨xs, n, _, _, hcl, hxl, hf⟩ := DataW.trod_struct Tryd.underlying94 h
  obtain ⟨y0, q0⟩ := rd_fld hf hxl (i := 0) rfl (o := 0) rfl (ft := 9) rfl (k := 1) (by kernel_rfl)
  obtain ⟨z0, e0, w0⟩ := rd_str Tryd.underlying9 q0
  obtain ⟨y1, q1⟩ := rd_fld hf hxl (i := 1) rfl (o := 1) rfl (ft := 5) rfl (k := 1) (by kernel_rfl)
  obtain ⟨z1, e1, w1⟩ := rd_u8 Tryd.underlying5 q1
  obtain ⟨y2, q2⟩ := rd_fld hf hxl (i := 2) rfl (o := 2) rfl (ft := 2) rfl (k := 1) (by kernel_rfl)
  obtain ⟨z2, e2, w2⟩ := rd_i64 Tryd.underlying2 q2
  obtain ⟨y3, q3⟩ := rd_fld hf hxl (i := 3) rfl (o := 3) rfl (ft := 9) rfl (k := 1) (by kernel_rfl)
  obtain ⟨z3, e3, w3⟩ := rd_str Tryd.underlying9 q3
  have e := (cs_step e0 (cs_step e1 (cs_step e2 (cs_last (hcl.trans (by kernel_rfl)) e3))))
  rw [List.drop_zero] at e
  refine ⟨(⟨z0, z1, z2, z3⟩ : Go.SW.Pair), e, ?_⟩
  simp only [Go.SW.Pair.wf]
  refine ⟨by omega, by omega, by omega, by omega⟩
theorem rs23 {Ht : Type} {enc : TypeId × Value → Ht} {w : World} {base fuel : Nat} {spare : Nat → Bool} {held : Bool} {cs : List Value} {x : DataW Ht × List MemPlace} (h : DataW.trod enc Tryd.prog w base spare held fuel 23 cs = some x) : ∃ (a : Option Addr) (c : Nat) (rs : List Go.SW.Pair), cs = [.slice a rs.length c] ∧ SlH pairE 4 (hp w) (.slice a rs.length c) rs ∧ rs.length ≤ 9223372036854775807 :=
  rd_slice Tryd.underlying23 (by kernel_rfl) (by decide) (fun fuel cs x h => by obtain ⟨r, e, w⟩ := rd94 h; exact ⟨r, ⟨e, w⟩⟩) h
theorem rd50 {Ht : Type} {enc : TypeId × Value → Ht} {w : World} {base fuel : Nat} {spare : Nat → Bool} {held : Bool} {cs : List Value} {x : DataW Ht × List MemPlace} (h : DataW.trod enc Tryd.prog w base spare held fuel 50 cs = some x) : ∃ (r : Go.SW.Method) (a_head : Option Addr) (c_head : Nat), cs = Go.SW.Method.cells r a_head c_head ∧ Go.SW.Method.wf r ∧ SlH pairE 4 (hp w) (.slice a_head r.head.length c_head) r.head := by
  obtain ⟨xs, n, _, _, hcl, hxl, hf⟩ := DataW.trod_struct Tryd.underlying50 h
  obtain ⟨y0, q0⟩ := rd_fld hf hxl (i := 0) rfl (o := 0) rfl (ft := 5) rfl (k := 1) (by kernel_rfl)
  obtain ⟨z0, e0, w0⟩ := rd_u8 Tryd.underlying5 q0
  obtain ⟨y1, q1⟩ := rd_fld hf hxl (i := 1) rfl (o := 1) rfl (ft := 5) rfl (k := 1) (by kernel_rfl)
  obtain ⟨z1, e1, w1⟩ := rd_u8 Tryd.underlying5 q1
  obtain ⟨y2, q2⟩ := rd_fld hf hxl (i := 2) rfl (o := 2) rfl (ft := 9) rfl (k := 1) (by kernel_rfl)
  obtain ⟨z2, e2, w2⟩ := rd_str Tryd.underlying9 q2
  obtain ⟨y3, q3⟩ := rd_fld hf hxl (i := 3) rfl (o := 3) rfl (ft := 9) rfl (k := 1) (by kernel_rfl)
  obtain ⟨z3, e3, w3⟩ := rd_str Tryd.underlying9 q3
  obtain ⟨y4, q4⟩ := rd_fld hf hxl (i := 4) rfl (o := 4) rfl (ft := 9) rfl (k := 1) (by kernel_rfl)
  obtain ⟨z4, e4, w4⟩ := rd_str Tryd.underlying9 q4
  obtain ⟨y5, q5⟩ := rd_fld hf hxl (i := 5) rfl (o := 5) rfl (ft := 23) rfl (k := 1) (by kernel_rfl)
  obtain ⟨a5, c5, z5, e5, s5, w5⟩ := rs23 q5
  obtain ⟨y6, q6⟩ := rd_fld hf hxl (i := 6) rfl (o := 6) rfl (ft := 9) rfl (k := 1) (by kernel_rfl)
  obtain ⟨z6, e6, w6⟩ := rd_str Tryd.underlying9 q6
  obtain ⟨y7, q7⟩ := rd_fld hf hxl (i := 7) rfl (o := 7) rfl (ft := 22) rfl (k := 1) (by kernel_rfl)
  obtain ⟨z7, e7, w7⟩ := rd_u64 Tryd.underlying22 q7
  obtain ⟨y8, q8⟩ := rd_fld hf hxl (i := 8) rfl (o := 8) rfl (ft := 22) rfl (k := 1) (by kernel_rfl)
  obtain ⟨z8, e8, w8⟩ := rd_u64 Tryd.underlying22 q8
  obtain ⟨y9, q9⟩ := rd_fld hf hxl (i := 9) rfl (o := 9) rfl (ft := 4) rfl (k := 1) (by kernel_rfl)
  obtain ⟨z9, e9⟩ := rd_bool Tryd.underlying4 q9
  have e := (cs_step e0 (cs_step e1 (cs_step e2 (cs_step e3 (cs_step e4 (cs_step e5 (cs_step e6 (cs_step e7 (cs_step e8 (cs_last (hcl.trans (by kernel_rfl)) e9))))))))))
  rw [List.drop_zero] at e
  refine ⟨(⟨z0, z1, z2, z3, z4, z5, z6, z7, z8, z9⟩ : Go.SW.Method), a5, c5, e, ?_, s5⟩
  simp only [Go.SW.Method.wf]
  refine ⟨by omega, by omega, by omega, by omega, by omega, by omega, by omega, by omega, by omega⟩

theorem contract (H : Type) (enc : TypeId × Value → H) (W : World) (base : Nat) (args : Array Value) (ds gs : List (DataW H)) (before : List MemPlace)
    (hval0 : ∀ (j : Nat) t v, Tryd.f6.params[j]? = some t → args[j]? = some v → Value.okWide Tryd.prog W .any base t v)
    (hW : DataW.Whole enc Tryd.prog Tryd.f6.params.toList Rows.methodSameSpec.vars false W args.toList ds gs before) (hL : laidMetH Tryd.prog Rows.methodSameRow.laid W) (hS : W.ShapedOpen Tryd.prog) :
    Calls Tryd.prog 6 args W fun e W' => ∃ v, e = .returned v ∧ Rows.methodSameSpec.post enc Tryd.prog Tryd.f6 false true false false W args v W' := by
  have hL0 : laidMet Tryd.prog Rows.methodSameRow.laid W := by
    rw [MakeChecks.laidMetH_plain _ _ _ (by kernel_rfl)] at hL
    exact hL
  have hW' := hW
  obtain ⟨p, q, hA0, hV, rfl, hfz, hnd⟩ := hW
  have hA : DataW.TrodAll enc Tryd.prog W 0 (fun _ => true) true Tryd.f6.params.toList args.toList ds p := hA0
  have hval := hval0
  rw [Tryd.params6] at hA hval
  obtain ⟨v0, vs0, d0, ds0, p0, q0, hargs, rfl, rfl, h0, r0⟩ := trodAll_cons hA
  obtain ⟨v1, vs1, d1, ds1, p1, q1, rfl, rfl, rfl, h1, r1⟩ := trodAll_cons r0
  obtain ⟨v2, vs2, d2, ds2, p2, q2, rfl, rfl, rfl, h2, r2⟩ := trodAll_cons r1
  obtain ⟨rfl, rfl, rfl⟩ := trodAll_nil r2
  obtain rfl : args = #[v0, v1, v2] := by cases args; simp_all
  obtain ⟨rfl, rfl⟩ := trodVars_none hV
  obtain ⟨l0, fu0, rfl, g0⟩ := rd_agg Tryd.underlying50 (hval 0 50 v0 rfl rfl) h0
  obtain ⟨a, a_head_a, a_head_c, rfl, a_w, a_head_h⟩ := rd50 g0
  obtain ⟨l1, fu1, rfl, g1⟩ := rd_agg Tryd.underlying50 (hval 1 50 v1 rfl rfl) h1
  obtain ⟨b, b_head_a, b_head_c, rfl, b_w, b_head_h⟩ := rd50 g1
  obtain ⟨sort, rfl, sort_r⟩ := rd_one_int Tryd.underlying5 (hval 2 5 v2 rfl rfl) h2
  clear hA0 hval0
  have hML : GInt (hp W) 2 := gint_of_shape (t := 3) (zero := #[.int .i64 0]) hS (of_decide_eq_true (by kernel_rfl)) (by kernel_rfl) rfl (by kernel_rfl) (by kernel_rfl) Tryd.underlying3
  have hCrc : GTab (hp W) 1 laidT := gtab_of (g := 1) (n := 16) (by kernel_rfl) (by kernel_rfl) Tryd.underlying164 Tryd.underlying135 (by kernel_rfl) (by kernel_rfl) hL0
  have hTells : GStrs (hp W) 0 tellsT := gstrs_of (g := 0) (zs := tellsT) (by kernel_rfl) (by kernel_rfl) Tryd.underlying112 Tryd.underlying9 (by kernel_rfl) (by kernel_rfl) (laidMet.tail (laidMet.tail hL0))
  refine (method_law_Same _ a a_head_a a_head_c a_head_h a_w b b_head_a b_head_c b_head_h b_w sort sort_r hML hCrc hTells (rest0 W) l0 W (mem0 W)).mono fun e W' ⟨he, hm⟩ => ?_
  subst he
  exact ⟨_, rfl, law_post (s := Rows.methodSameSpec) rfl hW' (mem0_below hm) laidOut (params_ok (ts := Tryd.f6.params) (by kernel_rfl)) (tb := 4) rfl Tryd.underlying4 rfl⟩

/-- A world for the witness: the settled one, the listed variables holding what their initialisers lay. -/
theorem laid_met (os : Os) : laidMet Tryd.prog Rows.methodSameRow.laid ((laidW Tryd.prog os [(1, Rows.laid_stairwell_crc_laid), (4, Rows.laid_unicode_utf8_acceptRanges), (0, Rows.laid_stairwell_method_tells), (3, Rows.laid_unicode_utf8_first)]).forCall (fun _ _ => 0) ⟨#[], #[.agg #[.int .u8 0, .int .u8 0, .string ⟨#[]⟩, .string ⟨#[]⟩, .string ⟨#[]⟩, .slice none 0 0, .string ⟨#[]⟩, .int .u64 0, .int .u64 0, .bool false], .agg #[.int .u8 0, .int .u8 0, .string ⟨#[]⟩, .string ⟨#[]⟩, .string ⟨#[]⟩, .slice none 0 0, .string ⟨#[]⟩, .int .u64 0, .int .u64 0, .bool false], .int .u8 0], []⟩).memory :=
  laidMet_of_run' 8 (by kernel_rfl) (by kernel_rfl)
theorem reads (os : Os) {H : Type} (enc : TypeId × Value → H) : ∃ places, DataW.whole enc Tryd.prog ((laidW Tryd.prog os [(1, Rows.laid_stairwell_crc_laid), (4, Rows.laid_unicode_utf8_acceptRanges), (0, Rows.laid_stairwell_method_tells), (3, Rows.laid_unicode_utf8_first)]).forCall (fun _ _ => 0) ⟨#[], #[.agg #[.int .u8 0, .int .u8 0, .string ⟨#[]⟩, .string ⟨#[]⟩, .string ⟨#[]⟩, .slice none 0 0, .string ⟨#[]⟩, .int .u64 0, .int .u64 0, .bool false], .agg #[.int .u8 0, .int .u8 0, .string ⟨#[]⟩, .string ⟨#[]⟩, .string ⟨#[]⟩, .slice none 0 0, .string ⟨#[]⟩, .int .u64 0, .int .u64 0, .bool false], .int .u8 0], []⟩).memory Tryd.f6.params.toList Rows.methodSameSpec.vars false (#[.agg #[.int .u8 0, .int .u8 0, .string ⟨#[]⟩, .string ⟨#[]⟩, .string ⟨#[]⟩, .slice none 0 0, .string ⟨#[]⟩, .int .u64 0, .int .u64 0, .bool false], .agg #[.int .u8 0, .int .u8 0, .string ⟨#[]⟩, .string ⟨#[]⟩, .string ⟨#[]⟩, .slice none 0 0, .string ⟨#[]⟩, .int .u64 0, .int .u64 0, .bool false], .int .u8 0] : Array Value).toList 8 = some ([.agg [.lit (.int .u8 0), .lit (.int .u8 0), .lit (.string []), .lit (.string []), .lit (.string []), .nil, .lit (.string []), .lit (.int .u64 0), .lit (.int .u64 0), .lit (.bool false)], .agg [.lit (.int .u8 0), .lit (.int .u8 0), .lit (.string []), .lit (.string []), .lit (.string []), .nil, .lit (.string []), .lit (.int .u64 0), .lit (.int .u64 0), .lit (.bool false)], .lit (.int .u8 0)], [], places) :=
  ⟨[], by kernel_rfl⟩

theorem lifted (os : Os) (started : os.Started) (H : Type) (enc : TypeId × Value → H) (F : Stop.Interp) :
    ReturnsInHanded {} Tryd.checked os 6 .any ((OpenSpec.ofChange Rows.methodSameSpec).preRow enc Tryd.prog Tryd.f6 Rows.methodSameRow.domain false Rows.methodSameRow.laid) (((OpenSpec.ofChange Rows.methodSameSpec).at F).post enc Tryd.prog Tryd.f6 false true false false) := by
  obtain ⟨places, hx⟩ := reads os enc
  refine returnsInHanded_of_row (C := Tryd.checked) (s := OpenSpec.ofChange Rows.methodSameSpec) own started (by kernel_rfl) Tryd.func6
    (witness_row_at (enc := enc) (C := Tryd.checked) false (laidW Tryd.prog os [(1, Rows.laid_stairwell_crc_laid), (4, Rows.laid_unicode_utf8_acceptRanges), (0, Rows.laid_stairwell_method_tells), (3, Rows.laid_unicode_utf8_first)]) #[.agg #[.int .u8 0, .int .u8 0, .string ⟨#[]⟩, .string ⟨#[]⟩, .string ⟨#[]⟩, .slice none 0 0, .string ⟨#[]⟩, .int .u64 0, .int .u64 0, .bool false], .agg #[.int .u8 0, .int .u8 0, .string ⟨#[]⟩, .string ⟨#[]⟩, .string ⟨#[]⟩, .slice none 0 0, .string ⟨#[]⟩, .int .u64 0, .int .u64 0, .bool false], .int .u8 0] rfl (by kernel_rfl) (by kernel_rfl) (by kernel_rfl)
      (OpenSpec.preRow_of_cond 8 hx (by kernel_rfl) (fun k hk => by cases hk) (by kernel_rfl) (laid_met os))) ?_
  intro W base args ds gs before hval hW _ _ _ hL hS _
  exact contract H enc W base args ds gs before hval hW hL hS

theorem said : Rows.MethodSameSaid :=
  OpenClaim.holds_of_cond 6 Tryd.f6 rfl rfl rfl rfl rfl rfl rfl ⟨rfl, rfl, rfl, rfl, rfl⟩ rfl rfl rfl rfl rfl (by kernel_rfl) Tryd.func6 (by kernel_rfl)
    (of_decide_eq_true (by kernel_rfl)) (by unfold Func.isWrapper; first | (rw [if_pos (by decide +kernel)]; kernel_rfl) | (rw [if_neg (by decide +kernel)]; exact ⟨rfl, rfl⟩))
    (fun os started H enc _ F => by rw [OpenClaim.pre_eq_preRow]; exact lifted os started H enc F)

theorem plain (f : FuncId) (fn : Func) (hf : Tryd.pinned.checked.prog.funcNamed "stairwell/stairwelllaw11.MethodSame" = some f) (hfn : Tryd.pinned.checked.prog.funcs[f]? = some fn) :
    false = Tryd.pinned.checked.prog.looks [] ∧ ∀ (j : Nat) t, fn.params[j]? = some t → Tryd.pinned.checked.prog.wantsStandIn t = false := by
  obtain rfl : f = 6 := Option.some.inj ((show Tryd.prog.funcNamed "stairwell/stairwelllaw11.MethodSame" = some 6 by kernel_rfl).symm.trans hf) |>.symm
  obtain rfl : fn = Tryd.f6 := (Option.some.inj (Tryd.func6.symm.trans hfn)).symm
  refine ⟨by kernel_rfl, fun j t ht => ?_⟩
  rw [Tryd.params6] at ht
  have hm : t ∈ [50, 50, 5] := by simpa using Array.mem_of_getElem? ht
  have hall : ([50, 50, 5].all fun u => !Tryd.prog.wantsStandIn u) = true := by kernel_rfl
  exact (show Tryd.prog.wantsStandIn t = false by simpa using List.all_eq_true.1 hall t hm)

theorem card : Rows.MethodSameCardSaid :=
  Claim7.holds_tied_plain_at .later [] _ _ _ _ said (fun _ h => by cases h) (by kernel_rfl) (fun _ h => by cases h) methodSame_row_tie rfl ⟨rfl, rfl⟩ (by kernel_rfl) rfl plain (by kernel_rfl)
#print axioms card
end Go.Proofs.YtfchllcmfnhlbaaDoor.methodSame
