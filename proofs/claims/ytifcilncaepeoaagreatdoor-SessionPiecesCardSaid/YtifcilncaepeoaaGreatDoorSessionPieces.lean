/-
  SessionPieces: for every input the law returns true, and its arguments read as they did; the card, its listed variables tied to the program's text.
  Conditions: the listed package-level variables hold what the program's own text lays in them.
-/
import Derived.Test.YtifcilncaepeoaaGreatDoorSessionPiecesP5
import Derived.Test.YtifcilncaepeoaaGreatDoorSessionPiecesP3
import Derived.Test.YtifcilncaepeoaaGreatDoorCards
import Derived.Test.YtifcilncaepeoaaGreatDoorTie
import Derived.Deep.DeepHandedRow
import Derived.Deep.DeepWitnessRowRef
import Derived.Stop.LaidErr
import Derived.KernelRfl
set_option linter.unusedVariables false
set_option linter.unusedSimpArgs false
set_option linter.unusedVariables false
set_option maxRecDepth 100000
set_option maxHeartbeats 4000000
namespace Go.Proofs.YtifcilncaepeoaaGreatDoor.sessionPieces
open Go.ChangeShapes Go.WideShapes Go.ChangeAt Go.RowKit Go.SW Go.Proofs
theorem own:ownKnob Tryz.prog.godebug=none:=by kernel_rfl
theorem laidOut:laidOutB Tryz.prog=true:=by kernel_rfl
theorem M5_ (H:Type) (enc:TypeId×Value→H) (W:World) (base:Nat) (args:Array Value) (ds gs:List (DataW H)) (before:List MemPlace)
    (hval0:∀ (j:Nat) t v,Tryz.f5.params[j]? = some t→args[j]? = some v→Value.okWide Tryz.prog W .any base t v)
    (hW:DataW.Whole enc Tryz.prog Tryz.f5.params.toList Rows.sessionPiecesSpec.vars false W args.toList ds gs before) (hWt:(DataW.weightsEach Tryz.prog (Tryz.f5.params.toList++(OpenSpec.ofChange Rows.sessionPiecesSpec).bare.plain.varTypes Tryz.prog) (ds++gs)).all (· ≤ reachBytes)=true) (hL:laidMetH Tryz.prog Rows.sessionPiecesRow.laid W) (hS:W.ShapedOpen Tryz.prog) :
    Calls Tryz.prog 5 args W fun e W'=>∃ v,e = .returned v∧Rows.sessionPiecesSpec.post enc Tryz.prog Tryz.f5 false true false false W args v W':=by
  have hL0:laidMet Tryz.prog Rows.sessionPiecesRow.laid W:=by
    rw [MakeChecks.laidMetH_plain _ _ _ (by kernel_rfl)] at hL
    exact hL
  have hW':=hW
  obtain ⟨p,q,hA0,hV,rfl,hfz,hnd⟩:=hW
  have hA:DataW.TrodAll enc Tryz.prog W 0 (fun _=>true) true Tryz.f5.params.toList args.toList ds p:=hA0
  have hval:=hval0
  rw [Tryz.params5] at hA hval
  obtain ⟨v0,vs0,d0,ds0,p0,q0,hargs,rfl,rfl,h0,r0⟩:=trodAll_cons hA
  obtain ⟨v1,vs1,d1,ds1,p1,q1,rfl,rfl,rfl,h1,r1⟩:=trodAll_cons r0
  obtain ⟨rfl,rfl,rfl⟩:=trodAll_nil r1
  obtain rfl :args = #[v0,v1]:=by cases args;simp_all
  obtain ⟨rfl,rfl⟩:=trodVars_none hV
  obtain ⟨text,s0⟩:=arg_str Tryz.underlying9 (hval 0 9 v0 rfl rfl) h0
  obtain ⟨at_,s1⟩:=arg_int Tryz.underlying85 (hval 1 85 v1 rfl rfl) h1
  clear hA0 hval0
  have hML:GInt (hp W) 2:=Ns_ (t:=3) (zero:=#[.int .i64 0]) hS (of_decide_eq_true (by kernel_rfl)) (by kernel_rfl) rfl (by kernel_rfl) (by kernel_rfl) Tryz.underlying3
  have hCrc:GTab (hp W) 1 laidT:=gtab_of (g:=1) (n:=16) (by kernel_rfl) (by kernel_rfl) Tryz.underlying324 Tryz.underlying258 (by kernel_rfl) (by kernel_rfl) hL0
  have hTells:GStrs (hp W) 0 tellsT:=X2_ (g:=0) (zs:=tellsT) (by kernel_rfl) (by kernel_rfl) Tryz.underlying219 Tryz.underlying9 (by kernel_rfl) (by kernel_rfl) (laidMet.tail (laidMet.tail hL0))
  refine (law_run (vs:=[v0,v1]) (Go.SW.V.l28_SessionPieces_ok text at_) (show Go.SW.V.gb.p (hp W) from ⟨hML,hCrc,hTells⟩) (Sims.cons s0 (Sims.cons s1 Sims.nil)) (Go.SW.V.l28_pieces _ _ s1.wf)).mono fun e W' ⟨he,hm⟩=>?_
  subst he
  exact ⟨_,rfl,Wy_ (s:=Rows.sessionPiecesSpec) rfl hW' (Ru_ hm) laidOut (Ue_ (ts:=Tryz.f5.params) (by kernel_rfl)) (tb:=4) rfl Tryz.underlying4 rfl⟩
/-- A world for the witness: the settled one, the listed variables holding what their initialisers lay. -/
theorem Wq_ (os:Os):laidMet Tryz.prog Rows.sessionPiecesRow.laid ((laidW Tryz.prog os [(1,Rows.laid_stairwell_crc_laid),(4,Rows.laid_unicode_utf8_acceptRanges),(0,Rows.laid_stairwell_method_tells),(3,Rows.laid_unicode_utf8_first)]).forCall (fun _ _=>0) ⟨#[],#[.string ⟨#[]⟩, .int .u16 0],[]⟩).memory:=
  laidMet_of_run' 8 (by kernel_rfl) (by kernel_rfl)
theorem reads (os:Os) {H:Type} (enc:TypeId×Value→H):∃ places,DataW.whole enc Tryz.prog ((laidW Tryz.prog os [(1,Rows.laid_stairwell_crc_laid),(4,Rows.laid_unicode_utf8_acceptRanges),(0,Rows.laid_stairwell_method_tells),(3,Rows.laid_unicode_utf8_first)]).forCall (fun _ _=>0) ⟨#[],#[.string ⟨#[]⟩, .int .u16 0],[]⟩).memory Tryz.f5.params.toList Rows.sessionPiecesSpec.vars false (#[.string ⟨#[]⟩, .int .u16 0]:Array Value).toList 8=some ([.lit (.string []), .lit (.int .u16 0)],[],places):=
  ⟨[],by kernel_rfl⟩
theorem lifted (os:Os) (started:os.Started) (H:Type) (enc:TypeId×Value→H) (F:Stop.Interp) :
    ReturnsInHanded {} Tryz.checked os 5 .any ((OpenSpec.ofChange Rows.sessionPiecesSpec).preRow enc Tryz.prog Tryz.f5 Rows.sessionPiecesRow.domain false Rows.sessionPiecesRow.laid) (((OpenSpec.ofChange Rows.sessionPiecesSpec).at F).post enc Tryz.prog Tryz.f5 false true false false):=by
  obtain ⟨places,hx⟩:=reads os enc
  refine returnsInHanded_of_row (C:=Tryz.checked) (s:=OpenSpec.ofChange Rows.sessionPiecesSpec) own started (by kernel_rfl) Tryz.func5
    (witness_row_at (enc:=enc) (C:=Tryz.checked) false (laidW Tryz.prog os [(1,Rows.laid_stairwell_crc_laid),(4,Rows.laid_unicode_utf8_acceptRanges),(0,Rows.laid_stairwell_method_tells),(3,Rows.laid_unicode_utf8_first)]) #[.string ⟨#[]⟩, .int .u16 0] rfl (by kernel_rfl) (by kernel_rfl) (by kernel_rfl)
      (OpenSpec.preRow_of_cond 8 hx (by kernel_rfl) (fun k hk=>by cases hk) (by kernel_rfl) (Wq_ os))) ?_
  intro W base args ds gs before hval hW _ _ hWt hL hS _
  exact M5_ H enc W base args ds gs before hval hW hWt hL hS
theorem closed:joinedFacts Tryz.pinned.checked.prog 5 Tryz.f5 (OpenSpec.ofChange Rows.sessionPiecesSpec).bare Rows.sessionPiecesRow=true:=by
  unfold joinedFacts
  simp only [Bool.and_eq_true]
  repeat' (refine And.intro ?_ ?_)
  all_goals (as_aux_lemma=>kernel_rfl)
theorem said:Rows.SessionPiecesSaid:=
  OpenClaim.holds_of_cond 5 Tryz.f5 rfl rfl rfl rfl rfl rfl rfl ⟨rfl,rfl,rfl,rfl,rfl⟩ rfl rfl rfl rfl rfl (by as_aux_lemma=>kernel_rfl) Tryz.func5 closed
    (of_decide_eq_true (by as_aux_lemma=>kernel_rfl)) (by unfold Func.isWrapper;first | (rw [if_pos (by decide +kernel)];kernel_rfl) | (rw [if_neg (by decide +kernel)];exact ⟨rfl,rfl⟩))
    (fun os started H enc _ F=>by rw [OpenClaim.pre_eq_preRow];exact lifted os started H enc F)
theorem plain (f:FuncId) (fn:Func) (hf:Tryz.pinned.checked.prog.funcNamed "stairwell/stairwelllaw28.SessionPieces" = some f) (hfn:Tryz.pinned.checked.prog.funcs[f]? = some fn) :
    false=Tryz.pinned.checked.prog.looks []∧∀ (j:Nat) t,fn.params[j]? = some t→Tryz.pinned.checked.prog.wantsStandIn t=false:=by
  obtain rfl :f=5:=Option.some.inj ((show Tryz.prog.funcNamed "stairwell/stairwelllaw28.SessionPieces" = some 5 by kernel_rfl).symm.trans hf) |>.symm
  obtain rfl :fn=Tryz.f5:=(Option.some.inj (Tryz.func5.symm.trans hfn)).symm
  refine ⟨by as_aux_lemma=>kernel_rfl,fun j t ht=>?_⟩
  rw [Tryz.params5] at ht
  have hm:t∈[9,85]:=by simpa using Array.mem_of_getElem? ht
  have hall:([9,85].all fun u=>!Tryz.prog.wantsStandIn u)=true:=by kernel_rfl
  exact (show Tryz.prog.wantsStandIn t=false by simpa using List.all_eq_true.1 hall t hm)
theorem card:Rows.SessionPiecesCardSaid:=
  Claim7.holds_tied_plain_at .later [] _ _ _ _ said (fun _ h=>by cases h) (by as_aux_lemma=>kernel_rfl) (fun _ h=>by cases h) sessionPieces_row_tie rfl ⟨rfl,rfl⟩ (by as_aux_lemma=>kernel_rfl) rfl plain (by as_aux_lemma=>kernel_rfl)
#print axioms card
end Go.Proofs.YtifcilncaepeoaaGreatDoor.sessionPieces
