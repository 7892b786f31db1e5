/-
  StoreBuries: for every input the law returns true, and its arguments read as they did; the card, its listed variables tied to the program's text.
  Conditions: the listed package-level variables hold what the program's own text lays in them.
-/
import Derived.Test.YtkngbefdgkfjmaaGreatDoorStoreBuriesP6
import Derived.Test.YtkngbefdgkfjmaaGreatDoorStoreBuriesP3
import Derived.Test.YtkngbefdgkfjmaaGreatDoorCards
import Derived.Test.YtkngbefdgkfjmaaGreatDoorTie
import Derived.Deep.DeepHandedRow
import Derived.Deep.DeepWitnessRowRef
import Derived.Stop.LaidErr
import Derived.KernelRfl
set_option linter.unusedVariables false
set_option linter.unusedSimpArgs false
set_option maxRecDepth 100000
set_option maxHeartbeats 4000000
namespace Go.Proofs.YtkngbefdgkfjmaaGreatDoor.storeBuries
open Go.ChangeShapes Go.WideShapes Go.ChangeAt Go.RowKit Go.SW Go.Proofs
theorem own:ownKnob Tryz.prog.godebug=none:=by kernel_rfl
theorem laidOut:laidOutB Tryz.prog=true:=by kernel_rfl
theorem rdv242:Rdv Tryz.prog 242 Go.SW.Pair.pc 4:=fun Ht enc w base spare held fuel cs x h hw=>by
  obtain⟨xs,n,_,rfl,hcl,hxl,hf⟩:=DataW.trod_struct Tryz.underlying242 h
  obtain⟨z0,q0⟩:=Hi_ Tryz.underlying242 hf hxl hw (i:=0) rfl (o:=0) rfl (ft:=9) rfl (k:=1) (by kernel_rfl) (N4_ Tryz.underlying9)
  obtain⟨z1,q1⟩:=Hi_ Tryz.underlying242 hf hxl hw (i:=1) rfl (o:=1) rfl (ft:=5) rfl (k:=1) (by kernel_rfl) (N3_ Tryz.underlying5)
  obtain⟨z2,q2⟩:=Hi_ Tryz.underlying242 hf hxl hw (i:=2) rfl (o:=2) rfl (ft:=2) rfl (k:=1) (by kernel_rfl) (N3_ Tryz.underlying2)
  obtain⟨z3,q3⟩:=Hi_ Tryz.underlying242 hf hxl hw (i:=3) rfl (o:=3) rfl (ft:=9) rfl (k:=1) (by kernel_rfl) (N4_ Tryz.underlying9)
  have e:=(Iu_ q0 (Iu_ q1 (Iu_ q2 (Vj_ (hcl.trans (by kernel_rfl)) q3))))
  rw[List.drop_zero] at e
  exact⟨(⟨z0,z1,z2,z3⟩:Go.SW.Pair),e⟩
theorem rdvs61:Rdv Tryz.prog 61 (fun xs:List Go.SW.Pair=>[Go.SW.PV.sl Go.SW.Pair.pc xs]) 1:=Z3_ Tryz.underlying61 (k:=4) (by kernel_rfl) (by decide) (of_decide_eq_true (by kernel_rfl)) rdv242
theorem rdv65:Rdv Tryz.prog 65 Go.SW.Mail.pc 7:=fun Ht enc w base spare held fuel cs x h hw=>by
  obtain⟨xs,n,_,rfl,hcl,hxl,hf⟩:=DataW.trod_struct Tryz.underlying65 h
  obtain⟨z0,q0⟩:=Hi_ Tryz.underlying65 hf hxl hw (i:=0) rfl (o:=0) rfl (ft:=36) rfl (k:=1) (by kernel_rfl) (N3_ Tryz.underlying36)
  obtain⟨z1,q1⟩:=Hi_ Tryz.underlying65 hf hxl hw (i:=1) rfl (o:=1) rfl (ft:=9) rfl (k:=1) (by kernel_rfl) (N4_ Tryz.underlying9)
  obtain⟨z2,q2⟩:=Hi_ Tryz.underlying65 hf hxl hw (i:=2) rfl (o:=2) rfl (ft:=9) rfl (k:=1) (by kernel_rfl) (N4_ Tryz.underlying9)
  obtain⟨z3,q3⟩:=Hi_ Tryz.underlying65 hf hxl hw (i:=3) rfl (o:=3) rfl (ft:=61) rfl (k:=1) (by kernel_rfl) rdvs61
  obtain⟨z4,q4⟩:=Hi_ Tryz.underlying65 hf hxl hw (i:=4) rfl (o:=4) rfl (ft:=9) rfl (k:=1) (by kernel_rfl) (N4_ Tryz.underlying9)
  obtain⟨z5,q5⟩:=Hi_ Tryz.underlying65 hf hxl hw (i:=5) rfl (o:=5) rfl (ft:=36) rfl (k:=1) (by kernel_rfl) (N3_ Tryz.underlying36)
  obtain⟨z6,q6⟩:=Hi_ Tryz.underlying65 hf hxl hw (i:=6) rfl (o:=6) rfl (ft:=5) rfl (k:=1) (by kernel_rfl) (N3_ Tryz.underlying5)
  have e:=(Iu_ q0 (Iu_ q1 (Iu_ q2 (Iu_ q3 (Iu_ q4 (Iu_ q5 (Vj_ (hcl.trans (by kernel_rfl)) q6)))))))
  rw[List.drop_zero] at e
  exact⟨(⟨z0,z1,z2,z3,z4,z5,z6⟩:Go.SW.Mail),e⟩
theorem Ui_ (H:Type) (enc:TypeId×Value→H) (W:World) (base:Nat) (args:Array Value) (ds gs:List (DataW H)) (before:List MemPlace)
    (hval0:∀ (j:Nat) t v,Tryz.f5.params[j]? = some t→args[j]? = some v→Value.okWide Tryz.prog W .any base t v)
    (hW:DataW.Whole enc Tryz.prog Tryz.f5.params.toList Rows.storeBuriesSpec.vars false W args.toList ds gs before) (hWt:(DataW.weightsEach Tryz.prog (Tryz.f5.params.toList++(OpenSpec.ofChange Rows.storeBuriesSpec).bare.plain.varTypes Tryz.prog) (ds++gs)).all (· ≤ reachBytes)=true) (hL:laidMetH Tryz.prog Rows.storeBuriesRow.laid W) (hS:W.ShapedOpen Tryz.prog) :
    Calls Tryz.prog 5 args W fun e W'=>∃ v,e = .returned v∧Rows.storeBuriesSpec.post enc Tryz.prog Tryz.f5 false true false false W args v W':=by
  have hL0:laidMet Tryz.prog Rows.storeBuriesRow.laid W:=by
    rw[MakeChecks.laidMetH_plain _ _ _ (by kernel_rfl)] at hL
    exact hL
  have hW':=hW
  obtain⟨p,q,hA0,hV,rfl,hfz,hnd⟩:=hW
  have hA:DataW.TrodAll enc Tryz.prog W 0 (fun _=>true) true Tryz.f5.params.toList args.toList ds p:=hA0
  have hval:=hval0
  rw[Tryz.params5] at hA hval
  obtain⟨v0,vs0,d0,ds0,p0,q0,hargs,rfl,rfl,h0,r0⟩:=trodAll_cons hA
  obtain⟨v1,vs1,d1,ds1,p1,q1,rfl,rfl,rfl,h1,r1⟩:=trodAll_cons r0
  obtain⟨v2,vs2,d2,ds2,p2,q2,rfl,rfl,rfl,h2,r2⟩:=trodAll_cons r1
  obtain⟨rfl,rfl,rfl⟩:=trodAll_nil r2
  obtain rfl :args = #[v0,v1,v2]:=by cases args;simp_all
  obtain⟨rfl,rfl⟩:=trodVars_none hV
  obtain⟨m,s0⟩:=arg_rec Tryz.underlying65 (hval 0 65 v0 rfl rfl) h0 (wt_arg (j:=0) (t:=65) hWt (by kernel_rfl) rfl) rdv65
  obtain⟨tick,s1⟩:=arg_int Tryz.underlying36 (hval 1 36 v1 rfl rfl) h1
  obtain⟨late,s2⟩:=arg_bool Tryz.underlying4 (hval 2 4 v2 rfl rfl) h2
  clear hA0 hval0
  have hML:GInt (hp W) 0:=Ps_ (t:=3) (zero:=#[.int .i64 0]) hS (of_decide_eq_true (by kernel_rfl)) (by kernel_rfl) rfl (by kernel_rfl) (by kernel_rfl) Tryz.underlying3
  refine (law_run (vs:=[v0,v1,v2]) (Go.SW.V.l23_StoreBuries_ok m tick late) (show Go.SW.V.gb.p (hp W) from hML) (Sims.cons s0 (Sims.cons s1 (Sims.cons s2 Sims.nil))) (Go.SW.V.law23_buries _ _ _ s0.wf.2.2.2.2.2.2.1.1)).mono fun e W' ⟨he,hm⟩=>?_
  subst he
  exact⟨_,rfl,law_post (s:=Rows.storeBuriesSpec) rfl hW' (Wa_ hm) laidOut (Zu_ (ts:=Tryz.f5.params) (by kernel_rfl)) (tb:=4) rfl Tryz.underlying4 rfl⟩
/-- A world for the witness: the settled one, the listed variables holding what their initialisers lay. -/
theorem laid_met (os:Os):laidMet Tryz.prog Rows.storeBuriesRow.laid ((laidWE Tryz.prog os 494 496 [(6,Rows.laid_math_bits_deBruijn32tab),(7,Rows.laid_math_bits_deBruijn64tab),(5,Rows.laid_internal_strconv_uint64pow10),(2,Rows.laid_unicode_utf8_acceptRanges),(1,Rows.laid_unicode_utf8_first)] [(4,Rows.laid_strconv_ErrRange),(3,Rows.laid_strconv_ErrSyntax)]).forCall (fun _ _=>0) ⟨#[],#[.agg #[.int .u64 0, .string ⟨#[]⟩, .string ⟨#[]⟩, .slice none 0 0, .string ⟨#[]⟩, .int .u64 0, .int .u8 0], .int .u64 0, .bool false],[]⟩).memory:=
  laidMet_of_run' 8 (by kernel_rfl) (by kernel_rfl)
theorem reads (os:Os) {H:Type} (enc:TypeId×Value→H):∃ places,DataW.whole enc Tryz.prog ((laidWE Tryz.prog os 494 496 [(6,Rows.laid_math_bits_deBruijn32tab),(7,Rows.laid_math_bits_deBruijn64tab),(5,Rows.laid_internal_strconv_uint64pow10),(2,Rows.laid_unicode_utf8_acceptRanges),(1,Rows.laid_unicode_utf8_first)] [(4,Rows.laid_strconv_ErrRange),(3,Rows.laid_strconv_ErrSyntax)]).forCall (fun _ _=>0) ⟨#[],#[.agg #[.int .u64 0, .string ⟨#[]⟩, .string ⟨#[]⟩, .slice none 0 0, .string ⟨#[]⟩, .int .u64 0, .int .u8 0], .int .u64 0, .bool false],[]⟩).memory Tryz.f5.params.toList Rows.storeBuriesSpec.vars false (#[.agg #[.int .u64 0, .string ⟨#[]⟩, .string ⟨#[]⟩, .slice none 0 0, .string ⟨#[]⟩, .int .u64 0, .int .u8 0], .int .u64 0, .bool false]:Array Value).toList 8=some ([.agg [.lit (.int .u64 0), .lit (.string []), .lit (.string []), .nil, .lit (.string []), .lit (.int .u64 0), .lit (.int .u8 0)], .lit (.int .u64 0), .lit (.bool false)],[],places):=
  ⟨[],by kernel_rfl⟩
theorem lifted (os:Os) (started:os.Started) (H:Type) (enc:TypeId×Value→H) (F:Stop.Interp) :
    ReturnsInHanded {} Tryz.checked os 5 .any ((OpenSpec.ofChange Rows.storeBuriesSpec).preRow enc Tryz.prog Tryz.f5 Rows.storeBuriesRow.domain false Rows.storeBuriesRow.laid) (((OpenSpec.ofChange Rows.storeBuriesSpec).at F).post enc Tryz.prog Tryz.f5 false true false false):=by
  obtain⟨places,hx⟩:=reads os enc
  refine returnsInHanded_of_row (C:=Tryz.checked) (s:=OpenSpec.ofChange Rows.storeBuriesSpec) own started (by kernel_rfl) Tryz.func5
    (witness_row_at (enc:=enc) (C:=Tryz.checked) false (laidWE Tryz.prog os 494 496 [(6,Rows.laid_math_bits_deBruijn32tab),(7,Rows.laid_math_bits_deBruijn64tab),(5,Rows.laid_internal_strconv_uint64pow10),(2,Rows.laid_unicode_utf8_acceptRanges),(1,Rows.laid_unicode_utf8_first)] [(4,Rows.laid_strconv_ErrRange),(3,Rows.laid_strconv_ErrSyntax)]) #[.agg #[.int .u64 0, .string ⟨#[]⟩, .string ⟨#[]⟩, .slice none 0 0, .string ⟨#[]⟩, .int .u64 0, .int .u8 0], .int .u64 0, .bool false] rfl (by kernel_rfl) (by kernel_rfl) (by kernel_rfl)
      (OpenSpec.preRow_of_cond 8 hx (by kernel_rfl) (fun k hk=>by cases hk) (by kernel_rfl) (laid_met os))) ?_
  intro W base args ds gs before hval hW _ _ hWt hL hS _
  exact Ui_ H enc W base args ds gs before hval hW hWt hL hS
theorem closed:joinedFacts Tryz.pinned.checked.prog 5 Tryz.f5 (OpenSpec.ofChange Rows.storeBuriesSpec).bare Rows.storeBuriesRow=true:=by
  unfold joinedFacts
  simp only[Bool.and_eq_true]
  repeat' (refine And.intro ?_ ?_)
  all_goals (as_aux_lemma=>kernel_rfl)
theorem said:Rows.StoreBuriesSaid:=
  OpenClaim.holds_of_cond 5 Tryz.f5 rfl rfl rfl rfl rfl rfl rfl ⟨rfl,rfl,rfl,rfl,rfl⟩ rfl rfl rfl rfl rfl (by as_aux_lemma=>kernel_rfl) Tryz.func5 closed
    (of_decide_eq_true (by as_aux_lemma=>kernel_rfl)) (by unfold Func.isWrapper;first|(rw[if_pos (by decide +kernel)];kernel_rfl)|(rw[if_neg (by decide +kernel)];exact⟨rfl,rfl⟩))
    (fun os started H enc _ F=>by rw[OpenClaim.pre_eq_preRow];exact lifted os started H enc F)
theorem plain (f:FuncId) (fn:Func) (hf:Tryz.pinned.checked.prog.funcNamed "stairwell/stairwelllaw23.StoreBuries" = some f) (hfn:Tryz.pinned.checked.prog.funcs[f]? = some fn) :
    true=Tryz.pinned.checked.prog.looks []∧∀ (j:Nat) t,fn.params[j]? = some t→Tryz.pinned.checked.prog.wantsStandIn t=false:=by
  obtain rfl :f=5:=Option.some.inj ((show Tryz.prog.funcNamed "stairwell/stairwelllaw23.StoreBuries" = some 5 by kernel_rfl).symm.trans hf) |>.symm
  obtain rfl :fn=Tryz.f5:=(Option.some.inj (Tryz.func5.symm.trans hfn)).symm
  refine⟨by as_aux_lemma=>kernel_rfl,fun j t ht=>?_⟩
  rw[Tryz.params5] at ht
  have hm:t∈[65,36,4]:=by simpa using Array.mem_of_getElem? ht
  have hall:([65,36,4].all fun u=>!Tryz.prog.wantsStandIn u)=true:=by kernel_rfl
  exact (show Tryz.prog.wantsStandIn t=false by simpa using List.all_eq_true.1 hall t hm)
theorem card:Rows.StoreBuriesCardSaid:=
  Claim7.holds_tied_plain_at .later [] _ _ _ _ said (fun _ h=>by cases h) (by as_aux_lemma=>kernel_rfl) (fun _ h=>by cases h) storeBuries_row_tie rfl ⟨rfl,rfl⟩ (by as_aux_lemma=>kernel_rfl) rfl plain (by as_aux_lemma=>kernel_rfl)
#print axioms card
end Go.Proofs.YtkngbefdgkfjmaaGreatDoor.storeBuries
