/-
  DeedShort: for every input the law returns true, and its arguments read as they did; the card, its listed variables tied to the program's text.
  Conditions: the listed package-level variables hold what the program's own text lays in them.
-/
import Derived.Test.YtbcoemocijnooaaGreatDoorDeedShortP5
import Derived.Test.YtbcoemocijnooaaGreatDoorCards
import Derived.Test.YtbcoemocijnooaaGreatDoorTie
import Derived.Deep.DeepHandedRow
import Derived.Deep.DeepWitnessRowRef
import Derived.Stop.LaidErr
import Derived.KernelRfl
set_option linter.unusedVariables false
set_option linter.unusedSimpArgs false
set_option linter.unusedVariables false
set_option maxRecDepth 100000
set_option maxHeartbeats 4000000
namespace Go.Proofs.YtbcoemocijnooaaGreatDoor.deedShort
open Go.ChangeShapes Go.WideShapes Go.ChangeAt Go.RowKit Go.SW Go.Proofs
theorem own : ownKnob Tryz.prog.godebug = none := by kernel_rfl
theorem laidOut : laidOutB Tryz.prog = true := by kernel_rfl
theorem rd100 {Ht : Type} {enc : TypeId × Value → Ht} {w : World} {base fuel : Nat} {spare : Nat → Bool} {held : Bool} {cs : List Value} {x : DataW Ht × List MemPlace} (h : DataW.trod enc Tryz.prog w base spare held fuel 100 cs = some x) : ∃ (r : Go.SW.ShopR), cs = Go.SW.ShopR.cells r ∧ Go.SW.ShopR.wf r := by
  obtain ⟨xs, n, _, _, hcl, hxl, hf⟩ := DataW.trod_struct Tryz.underlying100 h
  obtain ⟨y0, q0⟩ := rd_fld hf hxl (i := 0) rfl (o := 0) rfl (ft := 9) rfl (k := 1) (by kernel_rfl)
  obtain ⟨z0, e0, w0⟩ := rd_str Tryz.underlying9 q0
  obtain ⟨y1, q1⟩ := rd_fld hf hxl (i := 1) rfl (o := 1) rfl (ft := 5) rfl (k := 1) (by kernel_rfl)
  obtain ⟨z1, e1, w1⟩ := rd_u8 Tryz.underlying5 q1
  obtain ⟨y2, q2⟩ := rd_fld hf hxl (i := 2) rfl (o := 2) rfl (ft := 9) rfl (k := 1) (by kernel_rfl)
  obtain ⟨z2, e2, w2⟩ := rd_str Tryz.underlying9 q2
  have e := (cs_step e0 (cs_step e1 (cs_last (hcl.trans (by kernel_rfl)) e2)))
  rw [List.drop_zero] at e
  refine ⟨(⟨z0, z1, z2⟩ : Go.SW.ShopR), e, ?_⟩
  simp only [Go.SW.ShopR.wf]
  repeat' (refine And.intro ?_ ?_)
  all_goals omega
theorem rd102 {Ht : Type} {enc : TypeId × Value → Ht} {w : World} {base fuel : Nat} {spare : Nat → Bool} {held : Bool} {cs : List Value} {x : DataW Ht × List MemPlace} (h : DataW.trod enc Tryz.prog w base spare held fuel 102 cs = some x) : ∃ (r : Go.SW.QueueR), cs = Go.SW.QueueR.cells r ∧ Go.SW.QueueR.wf r := by
  obtain ⟨xs, n, _, _, hcl, hxl, hf⟩ := DataW.trod_struct Tryz.underlying102 h
  obtain ⟨y0, q0⟩ := rd_fld hf hxl (i := 0) rfl (o := 0) rfl (ft := 9) rfl (k := 1) (by kernel_rfl)
  obtain ⟨z0, e0, w0⟩ := rd_str Tryz.underlying9 q0
  obtain ⟨y1, q1⟩ := rd_fld hf hxl (i := 1) rfl (o := 1) rfl (ft := 39) rfl (k := 1) (by kernel_rfl)
  obtain ⟨z1, e1, w1⟩ := rd_u64 Tryz.underlying39 q1
  obtain ⟨y2, q2⟩ := rd_fld hf hxl (i := 2) rfl (o := 2) rfl (ft := 39) rfl (k := 1) (by kernel_rfl)
  obtain ⟨z2, e2, w2⟩ := rd_u64 Tryz.underlying39 q2
  obtain ⟨y3, q3⟩ := rd_fld hf hxl (i := 3) rfl (o := 3) rfl (ft := 9) rfl (k := 1) (by kernel_rfl)
  obtain ⟨z3, e3, w3⟩ := rd_str Tryz.underlying9 q3
  have e := (cs_step e0 (cs_step e1 (cs_step e2 (cs_last (hcl.trans (by kernel_rfl)) e3))))
  rw [List.drop_zero] at e
  refine ⟨(⟨z0, z1, z2, z3⟩ : Go.SW.QueueR), e, ?_⟩
  simp only [Go.SW.QueueR.wf]
  repeat' (refine And.intro ?_ ?_)
  all_goals omega
theorem rd182 {Ht : Type} {enc : TypeId × Value → Ht} {w : World} {base fuel : Nat} {spare : Nat → Bool} {held : Bool} {cs : List Value} {x : DataW Ht × List MemPlace} (h : DataW.trod enc Tryz.prog w base spare held fuel 182 cs = some x) : ∃ (r : Go.SW.Pair), cs = Go.SW.Pair.cells r ∧ Go.SW.Pair.wf r := by
  obtain ⟨xs, n, _, _, hcl, hxl, hf⟩ := DataW.trod_struct Tryz.underlying182 h
  obtain ⟨y0, q0⟩ := rd_fld hf hxl (i := 0) rfl (o := 0) rfl (ft := 9) rfl (k := 1) (by kernel_rfl)
  obtain ⟨z0, e0, w0⟩ := rd_str Tryz.underlying9 q0
  obtain ⟨y1, q1⟩ := rd_fld hf hxl (i := 1) rfl (o := 1) rfl (ft := 5) rfl (k := 1) (by kernel_rfl)
  obtain ⟨z1, e1, w1⟩ := rd_u8 Tryz.underlying5 q1
  obtain ⟨y2, q2⟩ := rd_fld hf hxl (i := 2) rfl (o := 2) rfl (ft := 2) rfl (k := 1) (by kernel_rfl)
  obtain ⟨z2, e2, w2⟩ := rd_i64 Tryz.underlying2 q2
  obtain ⟨y3, q3⟩ := rd_fld hf hxl (i := 3) rfl (o := 3) rfl (ft := 9) rfl (k := 1) (by kernel_rfl)
  obtain ⟨z3, e3, w3⟩ := rd_str Tryz.underlying9 q3
  have e := (cs_step e0 (cs_step e1 (cs_step e2 (cs_last (hcl.trans (by kernel_rfl)) e3))))
  rw [List.drop_zero] at e
  refine ⟨(⟨z0, z1, z2, z3⟩ : Go.SW.Pair), e, ?_⟩
  simp only [Go.SW.Pair.wf]
  refine ⟨by omega, by omega, by omega, by omega⟩
theorem rs40 {Ht : Type} {enc : TypeId × Value → Ht} {w : World} {base fuel : Nat} {spare : Nat → Bool} {held : Bool} {cs : List Value} {x : DataW Ht × List MemPlace} (h : DataW.trod enc Tryz.prog w base spare held fuel 40 cs = some x) : ∃ (a : Option Addr) (c : Nat) (rs : List Go.SW.Pair), cs = [.slice a rs.length c] ∧ SlH pairE 4 (hp w) (.slice a rs.length c) rs ∧ rs.length ≤ 9223372036854775807 :=
  rd_slice Tryz.underlying40 (by kernel_rfl) (by decide) (fun fuel cs x h => by obtain ⟨r, e, w⟩ := rd182 h; exact ⟨r, ⟨e, w⟩⟩) h
theorem rd104 {Ht : Type} {enc : TypeId × Value → Ht} {w : World} {base fuel : Nat} {spare : Nat → Bool} {held : Bool} {cs : List Value} {x : DataW Ht × List MemPlace} (h : DataW.trod enc Tryz.prog w base spare held fuel 104 cs = some x) : ∃ (r : Go.SW.BindR) (a_want : Option Addr) (c_want : Nat), cs = Go.SW.BindR.cells r a_want c_want ∧ Go.SW.BindR.wf r ∧ SlH pairE 4 (hp w) (.slice a_want r.want.length c_want) r.want := by
  obtain ⟨xs, n, _, _, hcl, hxl, hf⟩ := DataW.trod_struct Tryz.underlying104 h
  obtain ⟨y0, q0⟩ := rd_fld hf hxl (i := 0) rfl (o := 0) rfl (ft := 9) rfl (k := 1) (by kernel_rfl)
  obtain ⟨z0, e0, w0⟩ := rd_str Tryz.underlying9 q0
  obtain ⟨y1, q1⟩ := rd_fld hf hxl (i := 1) rfl (o := 1) rfl (ft := 9) rfl (k := 1) (by kernel_rfl)
  obtain ⟨z1, e1, w1⟩ := rd_str Tryz.underlying9 q1
  obtain ⟨y2, q2⟩ := rd_fld hf hxl (i := 2) rfl (o := 2) rfl (ft := 4) rfl (k := 1) (by kernel_rfl)
  obtain ⟨z2, e2⟩ := rd_bool Tryz.underlying4 q2
  obtain ⟨y3, q3⟩ := rd_fld hf hxl (i := 3) rfl (o := 3) rfl (ft := 9) rfl (k := 1) (by kernel_rfl)
  obtain ⟨z3, e3, w3⟩ := rd_str Tryz.underlying9 q3
  obtain ⟨y4, q4⟩ := rd_fld hf hxl (i := 4) rfl (o := 4) rfl (ft := 40) rfl (k := 1) (by kernel_rfl)
  obtain ⟨a4, c4, z4, e4, s4, w4⟩ := rs40 q4
  obtain ⟨y5, q5⟩ := rd_fld hf hxl (i := 5) rfl (o := 5) rfl (ft := 4) rfl (k := 1) (by kernel_rfl)
  obtain ⟨z5, e5⟩ := rd_bool Tryz.underlying4 q5
  have e := (cs_step e0 (cs_step e1 (cs_step e2 (cs_step e3 (cs_step e4 (cs_last (hcl.trans (by kernel_rfl)) e5))))))
  rw [List.drop_zero] at e
  refine ⟨(⟨z0, z1, z2, z3, z4, z5⟩ : Go.SW.BindR), a4, c4, e, ?_, s4⟩
  simp only [Go.SW.BindR.wf]
  repeat' (refine And.intro ?_ ?_)
  all_goals omega
theorem rd42 {Ht : Type} {enc : TypeId × Value → Ht} {w : World} {base fuel : Nat} {spare : Nat → Bool} {held : Bool} {cs : List Value} {x : DataW Ht × List MemPlace} (h : DataW.trod enc Tryz.prog w base spare held fuel 42 cs = some x) : ∃ (r : Go.SW.Mail) (a_head : Option Addr) (c_head : Nat), cs = Go.SW.Mail.cells r a_head c_head ∧ Go.SW.Mail.wf r ∧ SlH pairE 4 (hp w) (.slice a_head r.head.length c_head) r.head := by
  obtain ⟨xs, n, _, _, hcl, hxl, hf⟩ := DataW.trod_struct Tryz.underlying42 h
  obtain ⟨y0, q0⟩ := rd_fld hf hxl (i := 0) rfl (o := 0) rfl (ft := 39) rfl (k := 1) (by kernel_rfl)
  obtain ⟨z0, e0, w0⟩ := rd_u64 Tryz.underlying39 q0
  obtain ⟨y1, q1⟩ := rd_fld hf hxl (i := 1) rfl (o := 1) rfl (ft := 9) rfl (k := 1) (by kernel_rfl)
  obtain ⟨z1, e1, w1⟩ := rd_str Tryz.underlying9 q1
  obtain ⟨y2, q2⟩ := rd_fld hf hxl (i := 2) rfl (o := 2) rfl (ft := 9) rfl (k := 1) (by kernel_rfl)
  obtain ⟨z2, e2, w2⟩ := rd_str Tryz.underlying9 q2
  obtain ⟨y3, q3⟩ := rd_fld hf hxl (i := 3) rfl (o := 3) rfl (ft := 40) rfl (k := 1) (by kernel_rfl)
  obtain ⟨a3, c3, z3, e3, s3, w3⟩ := rs40 q3
  obtain ⟨y4, q4⟩ := rd_fld hf hxl (i := 4) rfl (o := 4) rfl (ft := 9) rfl (k := 1) (by kernel_rfl)
  obtain ⟨z4, e4, w4⟩ := rd_str Tryz.underlying9 q4
  obtain ⟨y5, q5⟩ := rd_fld hf hxl (i := 5) rfl (o := 5) rfl (ft := 39) rfl (k := 1) (by kernel_rfl)
  obtain ⟨z5, e5, w5⟩ := rd_u64 Tryz.underlying39 q5
  obtain ⟨y6, q6⟩ := rd_fld hf hxl (i := 6) rfl (o := 6) rfl (ft := 5) rfl (k := 1) (by kernel_rfl)
  obtain ⟨z6, e6, w6⟩ := rd_u8 Tryz.underlying5 q6
  have e := (cs_step e0 (cs_step e1 (cs_step e2 (cs_step e3 (cs_step e4 (cs_step e5 (cs_last (hcl.trans (by kernel_rfl)) e6)))))))
  rw [List.drop_zero] at e
  refine ⟨(⟨z0, z1, z2, z3, z4, z5, z6⟩ : Go.SW.Mail), a3, c3, e, ?_, s3⟩
  simp only [Go.SW.Mail.wf]
  refine ⟨by omega, by omega, by omega, by omega, by omega, by omega, by omega⟩
theorem rd106 {Ht : Type} {enc : TypeId × Value → Ht} {w : World} {base fuel : Nat} {spare : Nat → Bool} {held : Bool} {cs : List Value} {x : DataW Ht × List MemPlace} (h : DataW.trod enc Tryz.prog w base spare held fuel 106 cs = some x) : ∃ (r : Go.SW.DeedR) (a_bind_want : Option Addr) (c_bind_want : Nat) (a_mail_head : Option Addr) (c_mail_head : Nat), cs = Go.SW.DeedR.cells r a_bind_want c_bind_want a_mail_head c_mail_head ∧ Go.SW.DeedR.wf r ∧ SlH pairE 4 (hp w) (.slice a_bind_want r.bind.want.length c_bind_want) r.bind.want ∧ SlH pairE 4 (hp w) (.slice a_mail_head r.mail.head.length c_mail_head) r.mail.head := by
  obtain ⟨xs, n, _, _, hcl, hxl, hf⟩ := DataW.trod_struct Tryz.underlying106 h
  obtain ⟨y0, q0⟩ := rd_fld hf hxl (i := 0) rfl (o := 0) rfl (ft := 5) rfl (k := 1) (by kernel_rfl)
  obtain ⟨z0, e0, w0⟩ := rd_u8 Tryz.underlying5 q0
  obtain ⟨y1, q1⟩ := rd_fld hf hxl (i := 1) rfl (o := 1) rfl (ft := 39) rfl (k := 1) (by kernel_rfl)
  obtain ⟨z1, e1, w1⟩ := rd_u64 Tryz.underlying39 q1
  obtain ⟨y2, q2⟩ := rd_fld hf hxl (i := 2) rfl (o := 2) rfl (ft := 100) rfl (k := 3) (by kernel_rfl)
  obtain ⟨z2, e2, w2⟩ := rd100 q2
  simp only [Go.SW.ShopR.wf] at w2
  obtain ⟨y3, q3⟩ := rd_fld hf hxl (i := 3) rfl (o := 5) rfl (ft := 102) rfl (k := 4) (by kernel_rfl)
  obtain ⟨z3, e3, w3⟩ := rd102 q3
  simp only [Go.SW.QueueR.wf] at w3
  obtain ⟨y4, q4⟩ := rd_fld hf hxl (i := 4) rfl (o := 9) rfl (ft := 104) rfl (k := 6) (by kernel_rfl)
  obtain ⟨z4, a4_want, c4_want, e4, w4, s4_want⟩ := rd104 q4
  simp only [Go.SW.BindR.wf] at w4
  obtain ⟨y5, q5⟩ := rd_fld hf hxl (i := 5) rfl (o := 15) rfl (ft := 9) rfl (k := 1) (by kernel_rfl)
  obtain ⟨z5, e5, w5⟩ := rd_str Tryz.underlying9 q5
  obtain ⟨y6, q6⟩ := rd_fld hf hxl (i := 6) rfl (o := 16) rfl (ft := 39) rfl (k := 1) (by kernel_rfl)
  obtain ⟨z6, e6, w6⟩ := rd_u64 Tryz.underlying39 q6
  obtain ⟨y7, q7⟩ := rd_fld hf hxl (i := 7) rfl (o := 17) rfl (ft := 5) rfl (k := 1) (by kernel_rfl)
  obtain ⟨z7, e7, w7⟩ := rd_u8 Tryz.underlying5 q7
  obtain ⟨y8, q8⟩ := rd_fld hf hxl (i := 8) rfl (o := 18) rfl (ft := 5) rfl (k := 1) (by kernel_rfl)
  obtain ⟨z8, e8, w8⟩ := rd_u8 Tryz.underlying5 q8
  obtain ⟨y9, q9⟩ := rd_fld hf hxl (i := 9) rfl (o := 19) rfl (ft := 5) rfl (k := 1) (by kernel_rfl)
  obtain ⟨z9, e9, w9⟩ := rd_u8 Tryz.underlying5 q9
  obtain ⟨y10, q10⟩ := rd_fld hf hxl (i := 10) rfl (o := 20) rfl (ft := 39) rfl (k := 1) (by kernel_rfl)
  obtain ⟨z10, e10, w10⟩ := rd_u64 Tryz.underlying39 q10
  obtain ⟨y11, q11⟩ := rd_fld hf hxl (i := 11) rfl (o := 21) rfl (ft := 42) rfl (k := 7) (by kernel_rfl)
  obtain ⟨z11, a11_head, c11_head, e11, w11, s11_head⟩ := rd42 q11
  simp only [Go.SW.Mail.wf] at w11
  obtain ⟨y12, q12⟩ := rd_fld hf hxl (i := 12) rfl (o := 28) rfl (ft := 9) rfl (k := 1) (by kernel_rfl)
  obtain ⟨z12, e12, w12⟩ := rd_str Tryz.underlying9 q12
  have e := (cs_step e0 (cs_step e1 (cs_step e2 (cs_step e3 (cs_step e4 (cs_step e5 (cs_step e6 (cs_step e7 (cs_step e8 (cs_step e9 (cs_step e10 (cs_step e11 (cs_last (hcl.trans (by kernel_rfl)) e12)))))))))))))
  rw [List.drop_zero] at e
  refine ⟨(⟨z0, z1, z2, z3, z4, z5, z6, z7, z8, z9, z10, z11, z12⟩ : Go.SW.DeedR), a4_want, c4_want, a11_head, c11_head, e, ?_, s4_want, s11_head⟩
  simp only [Go.SW.DeedR.wf, Go.SW.ShopR.wf, Go.SW.QueueR.wf, Go.SW.BindR.wf, Go.SW.Mail.wf]
  repeat' (refine And.intro ?_ ?_)
  all_goals omega
theorem rs23 {Ht : Type} {enc : TypeId × Value → Ht} {w : World} {base fuel : Nat} {spare : Nat → Bool} {held : Bool} {cs : List Value} {x : DataW Ht × List MemPlace} (h : DataW.trod enc Tryz.prog w base spare held fuel 23 cs = some x) : ∃ (a : Option Addr) (c : Nat) (rs : List Go.SW.DeedR), cs = [.slice a rs.length c] ∧ SlH deedRE 29 (hp w) (.slice a rs.length c) rs ∧ rs.length ≤ 9223372036854775807 :=
  rd_slice Tryz.underlying23 (by kernel_rfl) (by decide) (fun fuel cs x h => by obtain ⟨r, a0, c0, a1, c1, e, w, s0, s1⟩ := rd106 h; exact ⟨r, ⟨a0, c0, a1, c1, e, s0, s1, w⟩⟩) h
theorem contract (H : Type) (enc : TypeId × Value → H) (W : World) (base : Nat) (args : Array Value) (ds gs : List (DataW H)) (before : List MemPlace)
    (hval0 : ∀ (j : Nat) t v, Tryz.f4.params[j]? = some t → args[j]? = some v → Value.okWide Tryz.prog W .any base t v)
    (hW : DataW.Whole enc Tryz.prog Tryz.f4.params.toList Rows.deedShortSpec.vars false W args.toList ds gs before) (hWt : (DataW.weightsEach Tryz.prog (Tryz.f4.params.toList ++ (OpenSpec.ofChange Rows.deedShortSpec).bare.plain.varTypes Tryz.prog) (ds ++ gs)).all (· ≤ reachBytes) = true) (hL : laidMetH Tryz.prog Rows.deedShortRow.laid W) (hS : W.ShapedOpen Tryz.prog) :
    Calls Tryz.prog 4 args W fun e W' => ∃ v, e = .returned v ∧ Rows.deedShortSpec.post enc Tryz.prog Tryz.f4 false true false false W args v W' := by
  have hL0 : laidMet Tryz.prog Rows.deedShortRow.laid W := by
    rw [MakeChecks.laidMetH_plain _ _ _ (by kernel_rfl)] at hL
    exact hL
  have hW' := hW
  obtain ⟨p, q, hA0, hV, rfl, hfz, hnd⟩ := hW
  have hA : DataW.TrodAll enc Tryz.prog W 0 (fun _ => true) true Tryz.f4.params.toList args.toList ds p := hA0
  have hval := hval0
  rw [Tryz.params4] at hA hval
  obtain ⟨v0, vs0, d0, ds0, p0, q0, hargs, rfl, rfl, h0, r0⟩ := trodAll_cons hA
  obtain ⟨v1, vs1, d1, ds1, p1, q1, rfl, rfl, rfl, h1, r1⟩ := trodAll_cons r0
  obtain ⟨rfl, rfl, rfl⟩ := trodAll_nil r1
  obtain rfl : args = #[v0, v1] := by cases args; simp_all
  obtain ⟨rfl, rfl⟩ := trodVars_none hV
  obtain ⟨fu0, g0⟩ := h0
  obtain ⟨l_a, l_c, l, e0, l_h, l_len⟩ := rs23 g0
  obtain rfl := rd_one_slice Tryz.underlying23 (hval 0 23 v0 rfl rfl) e0
  have hz0 := len_of_weights (B := 344) (j := 0) hWt (by kernel_rfl) rfl Tryz.underlying23 (by kernel_rfl) (dat_slice Tryz.underlying23 g0)
  obtain ⟨cut, rfl, cut_r⟩ := rd_one_int Tryz.underlying34 (hval 1 34 v1 rfl rfl) h1
  clear hA0 hval0
  have hML : GInt (hp W) 2 := gint_of_shape (t := 3) (zero := #[.int .i64 0]) hS (of_decide_eq_true (by kernel_rfl)) (by kernel_rfl) rfl (by kernel_rfl) (by kernel_rfl) Tryz.underlying3
  refine (deed_law_Short _ l_a l.length l_c l l_h cut cut_r hML (by omega) (rest0 W) l0 W (mem0 W)).mono fun e W' ⟨he, hm⟩ => ?_
  subst he
  exact ⟨_, rfl, law_post (s := Rows.deedShortSpec) rfl hW' (mem0_below hm) laidOut (params_ok (ts := Tryz.f4.params) (by kernel_rfl)) (tb := 4) rfl Tryz.underlying4 rfl⟩
/-- A world for the witness: the settled one, the listed variables holding what their initialisers lay. -/
theorem laid_met (os : Os) : laidMet Tryz.prog Rows.deedShortRow.laid ((laidW Tryz.prog os [(4, Rows.laid_unicode_utf8_acceptRanges), (3, Rows.laid_unicode_utf8_first)]).forCall (fun _ _ => 0) ⟨#[], #[.slice none 0 0, .int .u16 0], []⟩).memory :=
  laidMet_of_run' 8 (by kernel_rfl) (by kernel_rfl)
theorem reads (os : Os) {H : Type} (enc : TypeId × Value → H) : ∃ places, DataW.whole enc Tryz.prog ((laidW Tryz.prog os [(4, Rows.laid_unicode_utf8_acceptRanges), (3, Rows.laid_unicode_utf8_first)]).forCall (fun _ _ => 0) ⟨#[], #[.slice none 0 0, .int .u16 0], []⟩).memory Tryz.f4.params.toList Rows.deedShortSpec.vars false (#[.slice none 0 0, .int .u16 0] : Array Value).toList 8 = some ([.nil, .lit (.int .u16 0)], [], places) :=
  ⟨[], by kernel_rfl⟩
theorem lifted (os : Os) (started : os.Started) (H : Type) (enc : TypeId × Value → H) (F : Stop.Interp) :
    ReturnsInHanded {} Tryz.checked os 4 .any ((OpenSpec.ofChange Rows.deedShortSpec).preRow enc Tryz.prog Tryz.f4 Rows.deedShortRow.domain false Rows.deedShortRow.laid) (((OpenSpec.ofChange Rows.deedShortSpec).at F).post enc Tryz.prog Tryz.f4 false true false false) := by
  obtain ⟨places, hx⟩ := reads os enc
  refine returnsInHanded_of_row (C := Tryz.checked) (s := OpenSpec.ofChange Rows.deedShortSpec) own started (by kernel_rfl) Tryz.func4
    (witness_row_at (enc := enc) (C := Tryz.checked) false (laidW Tryz.prog os [(4, Rows.laid_unicode_utf8_acceptRanges), (3, Rows.laid_unicode_utf8_first)]) #[.slice none 0 0, .int .u16 0] rfl (by kernel_rfl) (by kernel_rfl) (by kernel_rfl)
      (OpenSpec.preRow_of_cond 8 hx (by kernel_rfl) (fun k hk => by cases hk) (by kernel_rfl) (laid_met os))) ?_
  intro W base args ds gs before hval hW _ _ hWt hL hS _
  exact contract H enc W base args ds gs before hval hW hWt hL hS
theorem closed : joinedFacts Tryz.pinned.checked.prog 4 Tryz.f4 (OpenSpec.ofChange Rows.deedShortSpec).bare Rows.deedShortRow = true := by
  unfold joinedFacts
  simp only [Bool.and_eq_true]
  repeat' (refine And.intro ?_ ?_)
  all_goals (as_aux_lemma => kernel_rfl)
theorem said : Rows.DeedShortSaid :=
  OpenClaim.holds_of_cond 4 Tryz.f4 rfl rfl rfl rfl rfl rfl rfl ⟨rfl, rfl, rfl, rfl, rfl⟩ rfl rfl rfl rfl rfl (by as_aux_lemma => kernel_rfl) Tryz.func4 closed
    (of_decide_eq_true (by as_aux_lemma => kernel_rfl)) (by unfold Func.isWrapper; first | (rw [if_pos (by decide +kernel)]; kernel_rfl) | (rw [if_neg (by decide +kernel)]; exact ⟨rfl, rfl⟩))
    (fun os started H enc _ F => by rw [OpenClaim.pre_eq_preRow]; exact lifted os started H enc F)
theorem plain (f : FuncId) (fn : Func) (hf : Tryz.pinned.checked.prog.funcNamed "stairwell/stairwelllaw22.DeedShort" = some f) (hfn : Tryz.pinned.checked.prog.funcs[f]? = some fn) :
    false = Tryz.pinned.checked.prog.looks [] ∧ ∀ (j : Nat) t, fn.params[j]? = some t → Tryz.pinned.checked.prog.wantsStandIn t = false := by
  obtain rfl : f = 4 := Option.some.inj ((show Tryz.prog.funcNamed "stairwell/stairwelllaw22.DeedShort" = some 4 by kernel_rfl).symm.trans hf) |>.symm
  obtain rfl : fn = Tryz.f4 := (Option.some.inj (Tryz.func4.symm.trans hfn)).symm
  refine ⟨by as_aux_lemma => kernel_rfl, fun j t ht => ?_⟩
  rw [Tryz.params4] at ht
  have hm : t ∈ [23, 34] := by simpa using Array.mem_of_getElem? ht
  have hall : ([23, 34].all fun u => !Tryz.prog.wantsStandIn u) = true := by kernel_rfl
  exact (show Tryz.prog.wantsStandIn t = false by simpa using List.all_eq_true.1 hall t hm)
theorem card : Rows.DeedShortCardSaid :=
  Claim7.holds_tied_plain_at .later [] _ _ _ _ said (fun _ h => by cases h) (by as_aux_lemma => kernel_rfl) (fun _ h => by cases h) deedShort_row_tie rfl ⟨rfl, rfl⟩ (by as_aux_lemma => kernel_rfl) rfl plain (by as_aux_lemma => kernel_rfl)
#print axioms card
end Go.Proofs.YtbcoemocijnooaaGreatDoor.deedShort
