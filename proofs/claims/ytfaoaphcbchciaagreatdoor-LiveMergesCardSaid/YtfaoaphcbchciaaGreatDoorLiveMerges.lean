/-
  LiveMerges: for every input the law returns true, and its arguments read as they did; the card, its listed variables tied to the program's text.
  Conditions: the listed package-level variables hold what the program's own text lays in them.
-/
import Derived.Test.YtfaoaphcbchciaaGreatDoorLiveMergesP14
import Derived.Test.YtfaoaphcbchciaaGreatDoorLiveMergesP2
import Derived.Test.YtfaoaphcbchciaaGreatDoorCards
import Derived.Test.YtfaoaphcbchciaaGreatDoorLiveMergesP15
import Derived.Deep.DeepHandedRow
import Derived.Deep.DeepWitnessRowRef
import Derived.Stop.LaidErr
import Derived.Test.YtfaoaphcbchciaaGreatDoorLiveMergesP16
import Derived.Test.YtfaoaphcbchciaaGreatDoorLiveMergesP17
import Derived.KernelRfl
set_option linter.unusedVariables false
set_option linter.unusedSimpArgs false
set_option maxRecDepth 100000
set_option maxHeartbeats 4000000
namespace Go.Proofs.YtfaoaphcbchciaaGreatDoor.liveMerges
open Go.ChangeShapes Go.WideShapes Go.ChangeAt Go.RowKit Go.SW Go.Proofs
theorem rdv30:Rdv Tryz.prog 30 Go.SW.A_.pc 6:=λHt enc w base spare held fuel cs x h hw=>by
 obtain⟨xs,n,_,rfl,hcl,hxl,hf⟩:=DataW.trod_struct Tryz.underlying30 h
 obtain⟨z0,q0⟩:=Db_ Tryz.underlying30 hf hxl hw (i:=0) rfl (o:=0) rfl (ft:=5) rfl (k:=1) (by kernel_rfl) (Ed_ Tryz.underlying5)
 obtain⟨z1,q1⟩:=Db_ Tryz.underlying30 hf hxl hw (i:=1) rfl (o:=1) rfl (ft:=3) rfl (k:=1) (by kernel_rfl) (Ed_ Tryz.underlying3)
 obtain⟨z2,q2⟩:=Db_ Tryz.underlying30 hf hxl hw (i:=2) rfl (o:=2) rfl (ft:=28) rfl (k:=1) (by kernel_rfl) (Ed_ Tryz.underlying28)
 obtain⟨z3,q3⟩:=Db_ Tryz.underlying30 hf hxl hw (i:=3) rfl (o:=3) rfl (ft:=9) rfl (k:=1) (by kernel_rfl) (rdv_str Tryz.underlying9)
 obtain⟨z4,q4⟩:=Db_ Tryz.underlying30 hf hxl hw (i:=4) rfl (o:=4) rfl (ft:=3) rfl (k:=1) (by kernel_rfl) (Ed_ Tryz.underlying3)
 obtain⟨z5,q5⟩:=Db_ Tryz.underlying30 hf hxl hw (i:=5) rfl (o:=5) rfl (ft:=3) rfl (k:=1) (by kernel_rfl) (Ed_ Tryz.underlying3)
 have e:=(Ef_ q0 (Ef_ q1 (Ef_ q2 (Ef_ q3 (Ef_ q4 (N3_ (hcl.trans (by kernel_rfl)) q5))))))
 rw[List.drop_zero] at e
 exact⟨(⟨z0,z1,z2,z3,z4,z5⟩:Go.SW.A_),e⟩
theorem rdvs25:Rdv Tryz.prog 25 (λxs:List Go.SW.A_=>[Go.SW.PV.sl Go.SW.A_.pc xs]) 1:=Gs_ Tryz.underlying25 (k:=6) (by kernel_rfl) (by decide) (of_decide_eq_true (by kernel_rfl)) rdv30
theorem rdvs22:Rdv Tryz.prog 22 (λxs:List (List A_)=>[Go.SW.PV.sl (slc A_.pc) xs]) 1:=Gs_ Tryz.underlying22 (k:=1) (by kernel_rfl) (by decide) (of_decide_eq_true (by kernel_rfl)) rdvs25
theorem contract (H:Type) (enc:TypeId×Value→H) (W:World) (base:Nat) (args:Array Value) (ds gs:List (DataW H)) (before:List MemPlace)
   (hval0:∀ (j:Nat) t v,Tryz.f3.params[j]? = some t→args[j]? = some v→Value.okWide Tryz.prog W .any base t v)
   (hW:DataW.Whole enc Tryz.prog Tryz.f3.params.toList Rows.liveMergesSpec.vars false W args.toList ds gs before) (hWt:(DataW.weightsEach Tryz.prog (Tryz.f3.params.toList++(OpenSpec.ofChange Rows.liveMergesSpec).bare.plain.varTypes Tryz.prog) (ds++gs)).all (· ≤ reachBytes)=true) (hL:laidMetH Tryz.prog Rows.liveMergesRow.laid W) (hS:W.ShapedOpen Tryz.prog) :
   Calls Tryz.prog 3 args W λe W'=>∃ v,e = .returned v∧Rows.liveMergesSpec.post enc Tryz.prog Tryz.f3 false true false false W args v W':=by
 have hL0:laidMet Tryz.prog Rows.liveMergesRow.laid W:=by
   rw[MakeChecks.laidMetH_plain _ _ _ (by kernel_rfl)] at hL
   exact hL
 have hW':=hW
 obtain⟨p,q,hA0,hV,rfl,hfz,hnd⟩:=hW
 have hA:DataW.TrodAll enc Tryz.prog W 0 (λ_=>true) true Tryz.f3.params.toList args.toList ds p:=hA0
 have hval:=hval0
 rw[Tryz.params3] at hA hval
 obtain⟨v0,vs0,d0,ds0,p0,q0,hargs,rfl,rfl,h0,r0⟩:=trodAll_cons hA
 obtain⟨rfl,rfl,rfl⟩:=trodAll_nil r0
 obtain rfl :args = #[v0]:=by cases args;simp_all
 obtain⟨rfl,rfl⟩:=trodVars_none hV
 obtain⟨lists,s0⟩:=arg_sl Tryz.underlying22 (hval 0 22 v0 rfl rfl) h0 (wt_arg (j:=0) (t:=22) hWt (by kernel_rfl) rfl) rdvs22
 clear hA0 hval0
 have hML:GInt (hp W) 4:=Fl_ (t:=3) (zero:=#[.int .i64 0]) hS (of_decide_eq_true (by kernel_rfl)) (by kernel_rfl) rfl (by kernel_rfl) (by kernel_rfl) Tryz.underlying3
 have hCrc:GTab (hp W) 7 laidT:=Kr_ (g:=7) (n:=16) (by kernel_rfl) (by kernel_rfl) Tryz.underlying450 Tryz.underlying68 (by kernel_rfl) (by kernel_rfl) hL0
 have hTells:GStrs (hp W) 3 tellsT:=Nd_ (g:=3) (zs:=tellsT) (by kernel_rfl) (by kernel_rfl) Tryz.underlying238 Tryz.underlying9 (by kernel_rfl) (by kernel_rfl) (laidMet.tail (laidMet.tail (laidMet.tail hL0)))
 have hPow:GPow (hp W) 1:=Kr_ (g:=1) (n:=20) (by kernel_rfl) (by kernel_rfl) Tryz.underlying219 Tryz.underlying28 (by kernel_rfl) (by kernel_rfl) (laidMet.tail (laidMet.tail (laidMet.tail (laidMet.tail (laidMet.tail (laidMet.tail hL0))))))
 refine (law_run (vs:=[v0]) (Go.SW.V.l34_LiveMerges_ok lists) (show Go.SW.V.gb.p (hp W) from ⟨hML,hCrc,hTells,hPow⟩) (Sims.cons s0 Sims.nil) (Go.SW.V.law34_merges _)).mono λe W' ⟨he,hm⟩=>?_
 subst he
 exact⟨_,rfl,Ni_ (s:=Rows.liveMergesSpec) rfl hW' (Je_ hm) K0_ (L2_ (ts:=Tryz.f3.params) (by kernel_rfl)) (tb:=4) rfl Tryz.underlying4 rfl⟩
/-- A world for the witness: the settled one, the listed variables holding what their initialisers lay. -/
theorem Nh_ (os:Os):laidMet Tryz.prog Rows.liveMergesRow.laid ((laidWE Tryz.prog os 544 546 [(7,Rows.laid_stairwell_crc_laid),(10,Rows.laid_unicode_utf8_first),(11,Rows.laid_unicode_utf8_acceptRanges),(3,Rows.laid_stairwell_method_tells),(1,Rows.laid_internal_strconv_uint64pow10),(5,Rows.laid_math_bits_deBruijn32tab),(6,Rows.laid_math_bits_deBruijn64tab)] [(8,Rows.laid_strconv_ErrSyntax),(9,Rows.laid_strconv_ErrRange)]).forCall (λ_ _=>0) ⟨#[],#[.slice none 0 0],[]⟩).memory:=
 laidMet_of_run' 8 (by kernel_rfl) (by kernel_rfl)
theorem reads (os:Os) {H:Type} (enc:TypeId×Value→H):∃ places,DataW.whole enc Tryz.prog ((laidWE Tryz.prog os 544 546 [(7,Rows.laid_stairwell_crc_laid),(10,Rows.laid_unicode_utf8_first),(11,Rows.laid_unicode_utf8_acceptRanges),(3,Rows.laid_stairwell_method_tells),(1,Rows.laid_internal_strconv_uint64pow10),(5,Rows.laid_math_bits_deBruijn32tab),(6,Rows.laid_math_bits_deBruijn64tab)] [(8,Rows.laid_strconv_ErrSyntax),(9,Rows.laid_strconv_ErrRange)]).forCall (λ_ _=>0) ⟨#[],#[.slice none 0 0],[]⟩).memory Tryz.f3.params.toList Rows.liveMergesSpec.vars false (#[.slice none 0 0]:Array Value).toList 8=some ([.nil],[],places):=
 ⟨[],by kernel_rfl⟩
theorem lifted (os:Os) (started:os.Started) (H:Type) (enc:TypeId×Value→H) (F:Stop.Interp) :
   ReturnsInHanded {} Tryz.checked os 3 .any ((OpenSpec.ofChange Rows.liveMergesSpec).preRow enc Tryz.prog Tryz.f3 Rows.liveMergesRow.domain false Rows.liveMergesRow.laid) (((OpenSpec.ofChange Rows.liveMergesSpec).at F).post enc Tryz.prog Tryz.f3 false true false false):=by
 obtain⟨places,hx⟩:=reads os enc
 refine returnsInHanded_of_row (C:=Tryz.checked) (s:=OpenSpec.ofChange Rows.liveMergesSpec) own started (by kernel_rfl) Tryz.func3
   (witness_row_at (enc:=enc) (C:=Tryz.checked) false (laidWE Tryz.prog os 544 546 [(7,Rows.laid_stairwell_crc_laid),(10,Rows.laid_unicode_utf8_first),(11,Rows.laid_unicode_utf8_acceptRanges),(3,Rows.laid_stairwell_method_tells),(1,Rows.laid_internal_strconv_uint64pow10),(5,Rows.laid_math_bits_deBruijn32tab),(6,Rows.laid_math_bits_deBruijn64tab)] [(8,Rows.laid_strconv_ErrSyntax),(9,Rows.laid_strconv_ErrRange)]) #[.slice none 0 0] rfl (by kernel_rfl) (by kernel_rfl) (by kernel_rfl)
     (OpenSpec.preRow_of_cond 8 hx (by kernel_rfl) (λk hk=>by cases hk) (by kernel_rfl) (Nh_ os))) ?_
 intro W base args ds gs before hval hW _ _ hWt hL hS _
 exact contract H enc W base args ds gs before hval hW hWt hL hS
theorem said:Rows.LiveMergesSaid:=
 OpenClaim.holds_of_cond 3 Tryz.f3 rfl rfl rfl rfl rfl rfl rfl ⟨rfl,rfl,rfl,rfl,rfl⟩ rfl rfl rfl rfl rfl (by as_aux_lemma=>kernel_rfl) Tryz.func3 closed
   (of_decide_eq_true (by as_aux_lemma=>kernel_rfl)) (by unfold Func.isWrapper;first|(rw[if_pos (by decide +kernel)];kernel_rfl)|(rw[if_neg (by decide +kernel)];exact⟨rfl,rfl⟩))
   (λos started H enc _ F=>by rw[OpenClaim.pre_eq_preRow];exact lifted os started H enc F)
theorem plain (f:FuncId) (fn:Func) (hf:Tryz.pinned.checked.prog.funcNamed "stairwell/stairwelllaw34.LiveMerges" = some f) (hfn:Tryz.pinned.checked.prog.funcs[f]? = some fn) :
   true=Tryz.pinned.checked.prog.looks []∧∀ (j:Nat) t,fn.params[j]? = some t→Tryz.pinned.checked.prog.wantsStandIn t=false:=by
 obtain rfl :f=3:=Option.some.inj ((show Tryz.prog.funcNamed "stairwell/stairwelllaw34.LiveMerges" = some 3 by kernel_rfl).symm.trans hf) |>.symm
 obtain rfl :fn=Tryz.f3:=(Option.some.inj (Tryz.func3.symm.trans hfn)).symm
 refine⟨by as_aux_lemma=>kernel_rfl,λj t ht=>?_⟩
 rw[Tryz.params3] at ht
 have hm:t∈[22]:=by simpa using Array.mem_of_getElem? ht
 have hall:([22].all λu=>!Tryz.prog.wantsStandIn u)=true:=by kernel_rfl
 exact (show Tryz.prog.wantsStandIn t=false by simpa using List.all_eq_true.1 hall t hm)
theorem card:Rows.LiveMergesCardSaid:=
 Claim7.holds_tied_plain_at .later [] _ _ _ _ said (λ_ h=>by cases h) (by as_aux_lemma=>kernel_rfl) (λ_ h=>by cases h) liveMerges_row_tie rfl ⟨rfl,rfl⟩ (by as_aux_lemma=>kernel_rfl) rfl plain (Go.SW.goes_none rfl (by as_aux_lemma=>kernel_rfl))
#print axioms card
end Go.Proofs.YtfaoaphcbchciaaGreatDoor.liveMerges
