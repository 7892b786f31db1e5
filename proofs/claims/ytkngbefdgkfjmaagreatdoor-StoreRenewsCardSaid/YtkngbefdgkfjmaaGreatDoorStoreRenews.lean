/-
  StoreRenews: for every input the law returns true, and its arguments read as they did; the card, its listed variables tied to the program's text.
  Conditions: the listed package-level variables hold what the program's own text lays in them.
-/
import Derived.Test.YtkngbefdgkfjmaaGreatDoorStoreRenewsP6
import Derived.Test.YtkngbefdgkfjmaaGreatDoorStoreRenewsP2
import Derived.Test.YtkngbefdgkfjmaaGreatDoorCards
import Derived.Test.YtkngbefdgkfjmaaGreatDoorTie
import Derived.Deep.DeepHandedRow
import Derived.Deep.DeepWitnessRowRef
import Derived.Stop.LaidErr
import Derived.KernelRfl
set_option linter.unusedVariables false
set_option linter.unusedSimpArgs false
set_option maxRecDepth 100000
set_option maxHeartbeats 4000000
namespace Go.Proofs.YtkngbefdgkfjmaaGreatDoor.storeRenews
open Go.ChangeShapes Go.WideShapes Go.ChangeAt Go.RowKit Go.SW Go.Proofs
theorem own:ownKnob Tryz.prog.godebug=none:=by kernel_rfl
theorem laidOut:laidOutB Tryz.prog=true:=by kernel_rfl
theorem Tn_ (H:Type) (enc:TypeId×Value→H) (W:World) (base:Nat) (args:Array Value) (ds gs:List (DataW H)) (before:List MemPlace)
    (hval0:∀ (j:Nat) t v,Tryz.f4.params[j]? = some t→args[j]? = some v→Value.okWide Tryz.prog W .any base t v)
    (hW:DataW.Whole enc Tryz.prog Tryz.f4.params.toList Rows.storeRenewsSpec.vars false W args.toList ds gs before) (hWt:(DataW.weightsEach Tryz.prog (Tryz.f4.params.toList++(OpenSpec.ofChange Rows.storeRenewsSpec).bare.plain.varTypes Tryz.prog) (ds++gs)).all (· ≤ reachBytes)=true) (hL:laidMetH Tryz.prog Rows.storeRenewsRow.laid W) (hS:W.ShapedOpen Tryz.prog) :
    Calls Tryz.prog 4 args W fun e W'=>∃ v,e = .returned v∧Rows.storeRenewsSpec.post enc Tryz.prog Tryz.f4 false true false false W args v W':=by
  have hL0:laidMet Tryz.prog Rows.storeRenewsRow.laid W:=by
    rw[MakeChecks.laidMetH_plain _ _ _ (by kernel_rfl)] at hL
    exact hL
  have hW':=hW
  obtain⟨p,q,hA0,hV,rfl,hfz,hnd⟩:=hW
  have hA:DataW.TrodAll enc Tryz.prog W 0 (fun _=>true) true Tryz.f4.params.toList args.toList ds p:=hA0
  have hval:=hval0
  rw[Tryz.params4] at hA hval
  obtain⟨v0,vs0,d0,ds0,p0,q0,hargs,rfl,rfl,h0,r0⟩:=trodAll_cons hA
  obtain⟨v1,vs1,d1,ds1,p1,q1,rfl,rfl,rfl,h1,r1⟩:=trodAll_cons r0
  obtain⟨v2,vs2,d2,ds2,p2,q2,rfl,rfl,rfl,h2,r2⟩:=trodAll_cons r1
  obtain⟨rfl,rfl,rfl⟩:=trodAll_nil r2
  obtain rfl :args = #[v0,v1,v2]:=by cases args;simp_all
  obtain⟨rfl,rfl⟩:=trodVars_none hV
  obtain⟨budget,s0⟩:=Sf_ Tryz.underlying5 (hval 0 5 v0 rfl rfl) h0
  obtain⟨slots,s1⟩:=Sf_ Tryz.underlying5 (hval 1 5 v1 rfl rfl) h1
  obtain⟨rounds,s2⟩:=Sf_ Tryz.underlying5 (hval 2 5 v2 rfl rfl) h2
  clear hA0 hval0
  have hML:GInt (hp W) 0:=Pd_ (t:=3) (zero:=#[.int .i64 0]) hS (of_decide_eq_true (by kernel_rfl)) (by kernel_rfl) rfl (by kernel_rfl) (by kernel_rfl) Tryz.underlying3
  refine (law_run (vs:=[v0,v1,v2]) (Go.SW.V.l23_StoreRenews_ok budget slots rounds) (show Go.SW.V.gb.p (hp W) from hML) (Sims.cons s0 (Sims.cons s1 (Sims.cons s2 Sims.nil))) (Go.SW.V.law23_renews _ _ _)).mono fun e W' ⟨he,hm⟩=>?_
  subst he
  exact⟨_,rfl,Zx_ (s:=Rows.storeRenewsSpec) rfl hW' (Va_ hm) laidOut (Yb_ (ts:=Tryz.f4.params) (by kernel_rfl)) (tb:=4) rfl Tryz.underlying4 rfl⟩
/-- A world for the witness: the settled one, the listed variables holding what their initialisers lay. -/
theorem Zw_ (os:Os):laidMet Tryz.prog Rows.storeRenewsRow.laid ((laidWE Tryz.prog os 494 496 [(6,Rows.laid_math_bits_deBruijn32tab),(7,Rows.laid_math_bits_deBruijn64tab),(5,Rows.laid_internal_strconv_uint64pow10),(2,Rows.laid_unicode_utf8_acceptRanges),(1,Rows.laid_unicode_utf8_first)] [(4,Rows.laid_strconv_ErrRange),(3,Rows.laid_strconv_ErrSyntax)]).forCall (fun _ _=>0) ⟨#[],#[.int .u8 0, .int .u8 0, .int .u8 0],[]⟩).memory:=
  laidMet_of_run' 8 (by kernel_rfl) (by kernel_rfl)
theorem reads (os:Os) {H:Type} (enc:TypeId×Value→H):∃ places,DataW.whole enc Tryz.prog ((laidWE Tryz.prog os 494 496 [(6,Rows.laid_math_bits_deBruijn32tab),(7,Rows.laid_math_bits_deBruijn64tab),(5,Rows.laid_internal_strconv_uint64pow10),(2,Rows.laid_unicode_utf8_acceptRanges),(1,Rows.laid_unicode_utf8_first)] [(4,Rows.laid_strconv_ErrRange),(3,Rows.laid_strconv_ErrSyntax)]).forCall (fun _ _=>0) ⟨#[],#[.int .u8 0, .int .u8 0, .int .u8 0],[]⟩).memory Tryz.f4.params.toList Rows.storeRenewsSpec.vars false (#[.int .u8 0, .int .u8 0, .int .u8 0]:Array Value).toList 8=some ([.lit (.int .u8 0), .lit (.int .u8 0), .lit (.int .u8 0)],[],places):=
  ⟨[],by kernel_rfl⟩
theorem lifted (os:Os) (started:os.Started) (H:Type) (enc:TypeId×Value→H) (F:Stop.Interp) :
    ReturnsInHanded {} Tryz.checked os 4 .any ((OpenSpec.ofChange Rows.storeRenewsSpec).preRow enc Tryz.prog Tryz.f4 Rows.storeRenewsRow.domain false Rows.storeRenewsRow.laid) (((OpenSpec.ofChange Rows.storeRenewsSpec).at F).post enc Tryz.prog Tryz.f4 false true false false):=by
  obtain⟨places,hx⟩:=reads os enc
  refine returnsInHanded_of_row (C:=Tryz.checked) (s:=OpenSpec.ofChange Rows.storeRenewsSpec) own started (by kernel_rfl) Tryz.func4
    (witness_row_at (enc:=enc) (C:=Tryz.checked) false (laidWE Tryz.prog os 494 496 [(6,Rows.laid_math_bits_deBruijn32tab),(7,Rows.laid_math_bits_deBruijn64tab),(5,Rows.laid_internal_strconv_uint64pow10),(2,Rows.laid_unicode_utf8_acceptRanges),(1,Rows.laid_unicode_utf8_first)] [(4,Rows.laid_strconv_ErrRange),(3,Rows.laid_strconv_ErrSyntax)]) #[.int .u8 0, .int .u8 0, .int .u8 0] rfl (by kernel_rfl) (by kernel_rfl) (by kernel_rfl)
      (OpenSpec.preRow_of_cond 8 hx (by kernel_rfl) (fun k hk=>by cases hk) (by kernel_rfl) (Zw_ os))) ?_
  intro W base args ds gs before hval hW _ _ hWt hL hS _
  exact Tn_ H enc W base args ds gs before hval hW hWt hL hS
theorem closed:joinedFacts Tryz.pinned.checked.prog 4 Tryz.f4 (OpenSpec.ofChange Rows.storeRenewsSpec).bare Rows.storeRenewsRow=true:=by
  unfold joinedFacts
  simp only[Bool.and_eq_true]
  repeat' (refine And.intro ?_ ?_)
  all_goals (as_aux_lemma=>kernel_rfl)
theorem said:Rows.StoreRenewsSaid:=
  OpenClaim.holds_of_cond 4 Tryz.f4 rfl rfl rfl rfl rfl rfl rfl ⟨rfl,rfl,rfl,rfl,rfl⟩ rfl rfl rfl rfl rfl (by as_aux_lemma=>kernel_rfl) Tryz.func4 closed
    (of_decide_eq_true (by as_aux_lemma=>kernel_rfl)) (by unfold Func.isWrapper;first|(rw[if_pos (by decide +kernel)];kernel_rfl)|(rw[if_neg (by decide +kernel)];exact⟨rfl,rfl⟩))
    (fun os started H enc _ F=>by rw[OpenClaim.pre_eq_preRow];exact lifted os started H enc F)
theorem plain (f:FuncId) (fn:Func) (hf:Tryz.pinned.checked.prog.funcNamed "stairwell/stairwelllaw23.StoreRenews" = some f) (hfn:Tryz.pinned.checked.prog.funcs[f]? = some fn) :
    true=Tryz.pinned.checked.prog.looks []∧∀ (j:Nat) t,fn.params[j]? = some t→Tryz.pinned.checked.prog.wantsStandIn t=false:=by
  obtain rfl :f=4:=Option.some.inj ((show Tryz.prog.funcNamed "stairwell/stairwelllaw23.StoreRenews" = some 4 by kernel_rfl).symm.trans hf) |>.symm
  obtain rfl :fn=Tryz.f4:=(Option.some.inj (Tryz.func4.symm.trans hfn)).symm
  refine⟨by as_aux_lemma=>kernel_rfl,fun j t ht=>?_⟩
  rw[Tryz.params4] at ht
  have hm:t∈[5,5,5]:=by simpa using Array.mem_of_getElem? ht
  have hall:([5,5,5].all fun u=>!Tryz.prog.wantsStandIn u)=true:=by kernel_rfl
  exact (show Tryz.prog.wantsStandIn t=false by simpa using List.all_eq_true.1 hall t hm)
theorem card:Rows.StoreRenewsCardSaid:=
  Claim7.holds_tied_plain_at .later [] _ _ _ _ said (fun _ h=>by cases h) (by as_aux_lemma=>kernel_rfl) (fun _ h=>by cases h) storeRenews_row_tie rfl ⟨rfl,rfl⟩ (by as_aux_lemma=>kernel_rfl) rfl plain (by as_aux_lemma=>kernel_rfl)
#print axioms card
end Go.Proofs.YtkngbefdgkfjmaaGreatDoor.storeRenews
