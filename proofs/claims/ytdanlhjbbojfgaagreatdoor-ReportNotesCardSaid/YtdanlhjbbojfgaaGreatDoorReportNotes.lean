/-
  ReportNotes: for every input the law returns true, and its arguments read as they did; the card, its listed variables tied to the program's text.
  Conditions: the listed package-level variables hold what the program's own text lays in them.
-/
import Derived.Test.YtdanlhjbbojfgaaGreatDoorReportNotesP6
import Derived.Test.YtdanlhjbbojfgaaGreatDoorReportNotesP3
import Derived.Test.YtdanlhjbbojfgaaGreatDoorCards
import Derived.Test.YtdanlhjbbojfgaaGreatDoorTie
import Derived.Deep.DeepHandedRow
import Derived.Deep.DeepWitnessRowRef
import Derived.Stop.LaidErr
import Derived.KernelRfl
set_option linter.unusedVariables false
set_option linter.unusedSimpArgs false
set_option maxRecDepth 100000
set_option maxHeartbeats 4000000
namespace Go.Proofs.YtdanlhjbbojfgaaGreatDoor.reportNotes
open Go.ChangeShapes Go.WideShapes Go.ChangeAt Go.RowKit Go.SW Go.Proofs
theorem own:ownKnob Tryz.prog.godebug=none:=by kernel_rfl
theorem laidOut:laidOutB Tryz.prog=true:=by kernel_rfl
theorem rdv24:Rdv Tryz.prog 24 Go.SW.NoteR.pc 3:=fun Ht enc w base spare held fuel cs x h hw=>by
  obtain⟨xs,n,_,rfl,hcl,hxl,hf⟩:=DataW.trod_struct Tryz.underlying24 h
  obtain⟨z0,q0⟩:=Vq_ Tryz.underlying24 hf hxl hw (i:=0) rfl (o:=0) rfl (ft:=22) rfl (k:=1) (by kernel_rfl) (rdv_int Tryz.underlying22)
  obtain⟨z1,q1⟩:=Vq_ Tryz.underlying24 hf hxl hw (i:=1) rfl (o:=1) rfl (ft:=5) rfl (k:=1) (by kernel_rfl) (rdv_int Tryz.underlying5)
  obtain⟨z2,q2⟩:=Vq_ Tryz.underlying24 hf hxl hw (i:=2) rfl (o:=2) rfl (ft:=9) rfl (k:=1) (by kernel_rfl) (rdv_str Tryz.underlying9)
  have e:=(row_cut q0 (row_cut q1 (row_last (hcl.trans (by kernel_rfl)) q2)))
  rw[List.drop_zero] at e
  exact⟨(⟨z0,z1,z2⟩:Go.SW.NoteR),e⟩
theorem N1_ (H:Type) (enc:TypeId×Value→H) (W:World) (base:Nat) (args:Array Value) (ds gs:List (DataW H)) (before:List MemPlace)
    (hval0:∀ (j:Nat) t v,Tryz.f3.params[j]? = some t→args[j]? = some v→Value.okWide Tryz.prog W .any base t v)
    (hW:DataW.Whole enc Tryz.prog Tryz.f3.params.toList Rows.reportNotesSpec.vars false W args.toList ds gs before) (hWt:(DataW.weightsEach Tryz.prog (Tryz.f3.params.toList++(OpenSpec.ofChange Rows.reportNotesSpec).bare.plain.varTypes Tryz.prog) (ds++gs)).all (· ≤ reachBytes)=true) (hL:laidMetH Tryz.prog Rows.reportNotesRow.laid W) (hS:W.ShapedOpen Tryz.prog) :
    Calls Tryz.prog 3 args W fun e W'=>∃ v,e = .returned v∧Rows.reportNotesSpec.post enc Tryz.prog Tryz.f3 false true false false W args v W':=by
  have hL0:laidMet Tryz.prog Rows.reportNotesRow.laid W:=by
    rw[MakeChecks.laidMetH_plain _ _ _ (by kernel_rfl)] at hL
    exact hL
  have hW':=hW
  obtain⟨p,q,hA0,hV,rfl,hfz,hnd⟩:=hW
  have hA:DataW.TrodAll enc Tryz.prog W 0 (fun _=>true) true Tryz.f3.params.toList args.toList ds p:=hA0
  have hval:=hval0
  rw[Tryz.params3] at hA hval
  obtain⟨v0,vs0,d0,ds0,p0,q0,hargs,rfl,rfl,h0,r0⟩:=trodAll_cons hA
  obtain⟨rfl,rfl,rfl⟩:=trodAll_nil r0
  obtain rfl :args = #[v0]:=by cases args;simp_all
  obtain⟨rfl,rfl⟩:=trodVars_none hV
  obtain⟨n,s0⟩:=arg_rec Tryz.underlying24 (hval 0 24 v0 rfl rfl) h0 (wt_arg (j:=0) (t:=24) hWt (by kernel_rfl) rfl) rdv24
  clear hA0 hval0
  have hML:GInt (hp W) 0:=Rl_ (t:=3) (zero:=#[.int .i64 0]) hS (of_decide_eq_true (by kernel_rfl)) (by kernel_rfl) rfl (by kernel_rfl) (by kernel_rfl) Tryz.underlying3
  have hPow:GPow (hp W) 1:=gtab_of (g:=1) (n:=20) (by kernel_rfl) (by kernel_rfl) Tryz.underlying388 Tryz.underlying22 (by kernel_rfl) (by kernel_rfl) (laidMet.tail (laidMet.tail hL0))
  refine (law_run (vs:=[v0]) (Go.SW.V.l33_ReportNotes_ok n) (show Go.SW.V.gb.p (hp W) from ⟨hML,hPow⟩) (Sims.cons s0 Sims.nil) (Go.SW.V.law33_notes _ s0.wf.2.1)).mono fun e W' ⟨he,hm⟩=>?_
  subst he
  exact⟨_,rfl,law_post (s:=Rows.reportNotesSpec) rfl hW' (Xs_ hm) laidOut (params_ok (ts:=Tryz.f3.params) (by kernel_rfl)) (tb:=4) rfl Tryz.underlying4 rfl⟩
/-- A world for the witness: the settled one, the listed variables holding what their initialisers lay. -/
theorem laid_met (os:Os):laidMet Tryz.prog Rows.reportNotesRow.laid ((laidWE Tryz.prog os 456 458 [(2,Rows.laid_math_bits_deBruijn32tab),(3,Rows.laid_math_bits_deBruijn64tab),(1,Rows.laid_internal_strconv_uint64pow10),(5,Rows.laid_unicode_utf8_acceptRanges),(4,Rows.laid_unicode_utf8_first)] [(7,Rows.laid_strconv_ErrRange),(6,Rows.laid_strconv_ErrSyntax)]).forCall (fun _ _=>0) ⟨#[],#[.agg #[.int .u64 0, .int .u8 0, .string ⟨#[]⟩]],[]⟩).memory:=
  laidMet_of_run' 8 (by kernel_rfl) (by kernel_rfl)
theorem reads (os:Os) {H:Type} (enc:TypeId×Value→H):∃ places,DataW.whole enc Tryz.prog ((laidWE Tryz.prog os 456 458 [(2,Rows.laid_math_bits_deBruijn32tab),(3,Rows.laid_math_bits_deBruijn64tab),(1,Rows.laid_internal_strconv_uint64pow10),(5,Rows.laid_unicode_utf8_acceptRanges),(4,Rows.laid_unicode_utf8_first)] [(7,Rows.laid_strconv_ErrRange),(6,Rows.laid_strconv_ErrSyntax)]).forCall (fun _ _=>0) ⟨#[],#[.agg #[.int .u64 0, .int .u8 0, .string ⟨#[]⟩]],[]⟩).memory Tryz.f3.params.toList Rows.reportNotesSpec.vars false (#[.agg #[.int .u64 0, .int .u8 0, .string ⟨#[]⟩]]:Array Value).toList 8=some ([.agg [.lit (.int .u64 0), .lit (.int .u8 0), .lit (.string [])]],[],places):=
  ⟨[],by kernel_rfl⟩
theorem lifted (os:Os) (started:os.Started) (H:Type) (enc:TypeId×Value→H) (F:Stop.Interp) :
    ReturnsInHanded {} Tryz.checked os 3 .any ((OpenSpec.ofChange Rows.reportNotesSpec).preRow enc Tryz.prog Tryz.f3 Rows.reportNotesRow.domain false Rows.reportNotesRow.laid) (((OpenSpec.ofChange Rows.reportNotesSpec).at F).post enc Tryz.prog Tryz.f3 false true false false):=by
  obtain⟨places,hx⟩:=reads os enc
  refine returnsInHanded_of_row (C:=Tryz.checked) (s:=OpenSpec.ofChange Rows.reportNotesSpec) own started (by kernel_rfl) Tryz.func3
    (witness_row_at (enc:=enc) (C:=Tryz.checked) false (laidWE Tryz.prog os 456 458 [(2,Rows.laid_math_bits_deBruijn32tab),(3,Rows.laid_math_bits_deBruijn64tab),(1,Rows.laid_internal_strconv_uint64pow10),(5,Rows.laid_unicode_utf8_acceptRanges),(4,Rows.laid_unicode_utf8_first)] [(7,Rows.laid_strconv_ErrRange),(6,Rows.laid_strconv_ErrSyntax)]) #[.agg #[.int .u64 0, .int .u8 0, .string ⟨#[]⟩]] rfl (by kernel_rfl) (by kernel_rfl) (by kernel_rfl)
      (OpenSpec.preRow_of_cond 8 hx (by kernel_rfl) (fun k hk=>by cases hk) (by kernel_rfl) (laid_met os))) ?_
  intro W base args ds gs before hval hW _ _ hWt hL hS _
  exact N1_ H enc W base args ds gs before hval hW hWt hL hS
theorem closed:joinedFacts Tryz.pinned.checked.prog 3 Tryz.f3 (OpenSpec.ofChange Rows.reportNotesSpec).bare Rows.reportNotesRow=true:=by
  unfold joinedFacts
  simp only[Bool.and_eq_true]
  repeat' (refine And.intro ?_ ?_)
  all_goals (as_aux_lemma=>kernel_rfl)
theorem said:Rows.ReportNotesSaid:=
  OpenClaim.holds_of_cond 3 Tryz.f3 rfl rfl rfl rfl rfl rfl rfl ⟨rfl,rfl,rfl,rfl,rfl⟩ rfl rfl rfl rfl rfl (by as_aux_lemma=>kernel_rfl) Tryz.func3 closed
    (of_decide_eq_true (by as_aux_lemma=>kernel_rfl)) (by unfold Func.isWrapper;first|(rw[if_pos (by decide +kernel)];kernel_rfl)|(rw[if_neg (by decide +kernel)];exact⟨rfl,rfl⟩))
    (fun os started H enc _ F=>by rw[OpenClaim.pre_eq_preRow];exact lifted os started H enc F)
theorem plain (f:FuncId) (fn:Func) (hf:Tryz.pinned.checked.prog.funcNamed "stairwell/stairwelllaw33.ReportNotes" = some f) (hfn:Tryz.pinned.checked.prog.funcs[f]? = some fn) :
    true=Tryz.pinned.checked.prog.looks []∧∀ (j:Nat) t,fn.params[j]? = some t→Tryz.pinned.checked.prog.wantsStandIn t=false:=by
  obtain rfl :f=3:=Option.some.inj ((show Tryz.prog.funcNamed "stairwell/stairwelllaw33.ReportNotes" = some 3 by kernel_rfl).symm.trans hf) |>.symm
  obtain rfl :fn=Tryz.f3:=(Option.some.inj (Tryz.func3.symm.trans hfn)).symm
  refine⟨by as_aux_lemma=>kernel_rfl,fun j t ht=>?_⟩
  rw[Tryz.params3] at ht
  have hm:t∈[24]:=by simpa using Array.mem_of_getElem? ht
  have hall:([24].all fun u=>!Tryz.prog.wantsStandIn u)=true:=by kernel_rfl
  exact (show Tryz.prog.wantsStandIn t=false by simpa using List.all_eq_true.1 hall t hm)
theorem card:Rows.ReportNotesCardSaid:=
  Claim7.holds_tied_plain_at .later [] _ _ _ _ said (fun _ h=>by cases h) (by as_aux_lemma=>kernel_rfl) (fun _ h=>by cases h) reportNotes_row_tie rfl ⟨rfl,rfl⟩ (by as_aux_lemma=>kernel_rfl) rfl plain (by as_aux_lemma=>kernel_rfl)
#print axioms card
end Go.Proofs.YtdanlhjbbojfgaaGreatDoor.reportNotes
