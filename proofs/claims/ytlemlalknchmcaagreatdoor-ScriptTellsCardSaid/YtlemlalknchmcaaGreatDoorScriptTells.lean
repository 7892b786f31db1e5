/-
  ScriptTells: for every input the law returns true, and its arguments read as they did; the card, its listed variables tied to the program's text.
  Conditions: the listed package-level variables hold what the program's own text lays in them.
-/
import Derived.Test.YtlemlalknchmcaaGreatDoorScriptTellsP14
import Derived.Test.YtlemlalknchmcaaGreatDoorScriptTellsP2
import Derived.Test.YtlemlalknchmcaaGreatDoorCards
import Derived.Test.YtlemlalknchmcaaGreatDoorScriptTellsP15
import Derived.Deep.DeepHandedRow
import Derived.Deep.DeepWitnessRowRef
import Derived.Stop.LaidErr
import Derived.Test.YtlemlalknchmcaaGreatDoorScriptTellsP16
import Derived.KernelRfl
import Derived.Test.YtlemlalknchmcaaGreatDoorScriptTellsP19
import Derived.Test.YtlemlalknchmcaaGreatDoorScriptTellsP20
import Derived.Test.YtlemlalknchmcaaGreatDoorScriptTellsP21
import Derived.Test.YtlemlalknchmcaaGreatDoorScriptTellsP22
import Derived.Test.YtlemlalknchmcaaGreatDoorScriptTellsP23
import Derived.Test.YtlemlalknchmcaaGreatDoorScriptTellsP24
import Derived.Test.YtlemlalknchmcaaGreatDoorScriptTellsP25
import Derived.Test.YtlemlalknchmcaaGreatDoorScriptTellsP26
import Derived.Test.YtlemlalknchmcaaGreatDoorScriptTellsP27
import Derived.Test.YtlemlalknchmcaaGreatDoorScriptTellsP28
set_option linter.unusedVariables false
set_option linter.unusedSimpArgs false
set_option maxRecDepth 100000
set_option maxHeartbeats 4000000
namespace Go.Proofs.YtlemlalknchmcaaGreatDoor.scriptTells
open Go.ChangeShapes Go.WideShapes Go.ChangeAt Go.RowKit Go.SW Go.Proofs
theorem rdv113:Rdv Tryz.prog 113 Go.SW.Pair.pc 4:=λHt enc w base spare held fuel cs x h hw=>by
 obtain⟨xs,n,_,rfl,hcl,hxl,hf⟩:=DataW.trod_struct Tryz.underlying113 h
 obtain⟨z0,q0⟩:=Aj_ Tryz.underlying113 hf hxl hw (i:=0) rfl (o:=0) rfl (ft:=9) rfl (k:=1) (by kernel_rfl) (Dv_ Tryz.underlying9)
 obtain⟨z1,q1⟩:=Aj_ Tryz.underlying113 hf hxl hw (i:=1) rfl (o:=1) rfl (ft:=5) rfl (k:=1) (by kernel_rfl) (B1_ Tryz.underlying5)
 obtain⟨z2,q2⟩:=Aj_ Tryz.underlying113 hf hxl hw (i:=2) rfl (o:=2) rfl (ft:=2) rfl (k:=1) (by kernel_rfl) (B1_ Tryz.underlying2)
 obtain⟨z3,q3⟩:=Aj_ Tryz.underlying113 hf hxl hw (i:=3) rfl (o:=3) rfl (ft:=9) rfl (k:=1) (by kernel_rfl) (Dv_ Tryz.underlying9)
 have e:=(Ar_ q0 (Ar_ q1 (Ar_ q2 (Gv_ (hcl.trans (by kernel_rfl)) q3))))
 rw[List.drop_zero] at e
 exact⟨(⟨z0,z1,z2,z3⟩:Go.SW.Pair),e⟩
theorem rdvs53:Rdv Tryz.prog 53 (λxs:List Go.SW.Pair=>[Go.SW.PV.sl Go.SW.Pair.pc xs]) 1:=Np_ Tryz.underlying53 (k:=4) (by kernel_rfl) (by decide) (of_decide_eq_true (by kernel_rfl)) rdv113
theorem rdv55:Rdv Tryz.prog 55 Go.SW.Mail.pc 7:=λHt enc w base spare held fuel cs x h hw=>by
 obtain⟨xs,n,_,rfl,hcl,hxl,hf⟩:=DataW.trod_struct Tryz.underlying55 h
 obtain⟨z0,q0⟩:=Aj_ Tryz.underlying55 hf hxl hw (i:=0) rfl (o:=0) rfl (ft:=28) rfl (k:=1) (by kernel_rfl) (B1_ Tryz.underlying28)
 obtain⟨z1,q1⟩:=Aj_ Tryz.underlying55 hf hxl hw (i:=1) rfl (o:=1) rfl (ft:=9) rfl (k:=1) (by kernel_rfl) (Dv_ Tryz.underlying9)
 obtain⟨z2,q2⟩:=Aj_ Tryz.underlying55 hf hxl hw (i:=2) rfl (o:=2) rfl (ft:=9) rfl (k:=1) (by kernel_rfl) (Dv_ Tryz.underlying9)
 obtain⟨z3,q3⟩:=Aj_ Tryz.underlying55 hf hxl hw (i:=3) rfl (o:=3) rfl (ft:=53) rfl (k:=1) (by kernel_rfl) rdvs53
 obtain⟨z4,q4⟩:=Aj_ Tryz.underlying55 hf hxl hw (i:=4) rfl (o:=4) rfl (ft:=9) rfl (k:=1) (by kernel_rfl) (Dv_ Tryz.underlying9)
 obtain⟨z5,q5⟩:=Aj_ Tryz.underlying55 hf hxl hw (i:=5) rfl (o:=5) rfl (ft:=28) rfl (k:=1) (by kernel_rfl) (B1_ Tryz.underlying28)
 obtain⟨z6,q6⟩:=Aj_ Tryz.underlying55 hf hxl hw (i:=6) rfl (o:=6) rfl (ft:=5) rfl (k:=1) (by kernel_rfl) (B1_ Tryz.underlying5)
 have e:=(Ar_ q0 (Ar_ q1 (Ar_ q2 (Ar_ q3 (Ar_ q4 (Ar_ q5 (Gv_ (hcl.trans (by kernel_rfl)) q6)))))))
 rw[List.drop_zero] at e
 exact⟨(⟨z0,z1,z2,z3,z4,z5,z6⟩:Go.SW.Mail),e⟩
theorem rdv57:Rdv Tryz.prog 57 Go.SW.Reply.pc 13:=λHt enc w base spare held fuel cs x h hw=>by
 obtain⟨xs,n,_,rfl,hcl,hxl,hf⟩:=DataW.trod_struct Tryz.underlying57 h
 obtain⟨z0,q0⟩:=Aj_ Tryz.underlying57 hf hxl hw (i:=0) rfl (o:=0) rfl (ft:=5) rfl (k:=1) (by kernel_rfl) (B1_ Tryz.underlying5)
 obtain⟨z1,q1⟩:=Aj_ Tryz.underlying57 hf hxl hw (i:=1) rfl (o:=1) rfl (ft:=5) rfl (k:=1) (by kernel_rfl) (B1_ Tryz.underlying5)
 obtain⟨z2,q2⟩:=Aj_ Tryz.underlying57 hf hxl hw (i:=2) rfl (o:=2) rfl (ft:=28) rfl (k:=1) (by kernel_rfl) (B1_ Tryz.underlying28)
 obtain⟨z3,q3⟩:=Aj_ Tryz.underlying57 hf hxl hw (i:=3) rfl (o:=3) rfl (ft:=28) rfl (k:=1) (by kernel_rfl) (B1_ Tryz.underlying28)
 obtain⟨z4,q4⟩:=Aj_ Tryz.underlying57 hf hxl hw (i:=4) rfl (o:=4) rfl (ft:=4) rfl (k:=1) (by kernel_rfl) (Ps_ Tryz.underlying4)
 obtain⟨z5,q5⟩:=Aj_ Tryz.underlying57 hf hxl hw (i:=5) rfl (o:=5) rfl (ft:=9) rfl (k:=1) (by kernel_rfl) (Dv_ Tryz.underlying9)
 obtain⟨z6,q6⟩:=Aj_ Tryz.underlying57 hf hxl hw (i:=6) rfl (o:=6) rfl (ft:=55) rfl (k:=7) (by kernel_rfl) rdv55
 have e:=(Ar_ q0 (Ar_ q1 (Ar_ q2 (Ar_ q3 (Ar_ q4 (Ar_ q5 (Gv_ (hcl.trans (by kernel_rfl)) q6)))))))
 rw[List.drop_zero] at e
 exact⟨(⟨z0,z1,z2,z3,z4,z5,z6⟩:Go.SW.Reply),e⟩
theorem contract (H:Type) (enc:TypeId×Value→H) (W:World) (base:Nat) (args:Array Value) (ds gs:List (DataW H)) (before:List MemPlace)
   (hval0:∀ (j:Nat) t v,Tryz.f6.params[j]? = some t→args[j]? = some v→Value.okWide Tryz.prog W .any base t v)
   (hW:DataW.Whole enc Tryz.prog Tryz.f6.params.toList Rows.scriptTellsSpec.vars false W args.toList ds gs before) (hWt:(DataW.weightsEach Tryz.prog (Tryz.f6.params.toList++(OpenSpec.ofChange Rows.scriptTellsSpec).bare.plain.varTypes Tryz.prog) (ds++gs)).all (· ≤ reachBytes)=true) (hL:laidMetH Tryz.prog Rows.scriptTellsRow.laid W) (hS:W.ShapedOpen Tryz.prog) :
   Calls Tryz.prog 6 args W λe W'=>∃ v,e = .returned v∧Rows.scriptTellsSpec.post enc Tryz.prog Tryz.f6 false true false false W args v W':=by
 have hL0:laidMet Tryz.prog Rows.scriptTellsRow.laid W:=by
   rw[MakeChecks.laidMetH_plain _ _ _ (by kernel_rfl)] at hL
   exact hL
 have hW':=hW
 obtain⟨p,q,hA0,hV,rfl,hfz,hnd⟩:=hW
 have hA:DataW.TrodAll enc Tryz.prog W 0 (λ_=>true) true Tryz.f6.params.toList args.toList ds p:=hA0
 have hval:=hval0
 rw[Tryz.params6] at hA hval
 obtain⟨v0,vs0,d0,ds0,p0,q0,hargs,rfl,rfl,h0,r0⟩:=trodAll_cons hA
 obtain⟨v1,vs1,d1,ds1,p1,q1,rfl,rfl,rfl,h1,r1⟩:=trodAll_cons r0
 obtain⟨rfl,rfl,rfl⟩:=trodAll_nil r1
 obtain rfl :args = #[v0,v1]:=by cases args;simp_all
 obtain⟨rfl,rfl⟩:=trodVars_none hV
 obtain⟨client,s0⟩:=arg_int Tryz.underlying28 (hval 0 28 v0 rfl rfl) h0
 obtain⟨r,s1⟩:=arg_rec Tryz.underlying57 (hval 1 57 v1 rfl rfl) h1 (wt_arg (j:=1) (t:=57) hWt (by kernel_rfl) rfl) rdv57
 clear hA0 hval0
 have hML:GInt (hp W) 4:=Gl_ (t:=3) (zero:=#[.int .i64 0]) hS (of_decide_eq_true (by kernel_rfl)) (by kernel_rfl) rfl (by kernel_rfl) (by kernel_rfl) Tryz.underlying3
 have hCrc:GTab (hp W) 7 laidT:=Id_ (g:=7) (n:=16) (by kernel_rfl) (by kernel_rfl) Tryz.underlying450 Tryz.underlying68 (by kernel_rfl) (by kernel_rfl) (laidMet.tail (laidMet.tail (laidMet.tail (laidMet.tail (laidMet.tail (laidMet.tail (laidMet.tail (laidMet.tail (laidMet.tail (laidMet.tail hL0))))))))))
 have hTells:GStrs (hp W) 3 tellsT:=O2_ (g:=3) (zs:=tellsT) (by kernel_rfl) (by kernel_rfl) Tryz.underlying238 Tryz.underlying9 (by kernel_rfl) (by kernel_rfl) (laidMet.tail (laidMet.tail (laidMet.tail (laidMet.tail (laidMet.tail (laidMet.tail (laidMet.tail (laidMet.tail (laidMet.tail hL0)))))))))
 have hPow:GPow (hp W) 1:=Id_ (g:=1) (n:=20) (by kernel_rfl) (by kernel_rfl) Tryz.underlying219 Tryz.underlying28 (by kernel_rfl) (by kernel_rfl) (laidMet.tail (laidMet.tail (laidMet.tail (laidMet.tail hL0))))
 have hSpc:GSpc (hp W) 0:=Id_ (g:=0) (n:=256) (by kernel_rfl) (by kernel_rfl) Tryz.underlying172 Tryz.underlying5 (by kernel_rfl) (by kernel_rfl) (laidMet.tail (laidMet.tail (laidMet.tail (laidMet.tail (laidMet.tail (laidMet.tail (laidMet.tail hL0)))))))
 refine (law_run (vs:=[v0,v1]) (Go.SW.V.l31_ScriptTells_ok client r) (show Go.SW.V.gb.p (hp W) from ⟨hML,hCrc,hTells,hPow,hSpc⟩) (Sims.cons s0 (Sims.cons s1 Sims.nil)) (Go.SW.V.law31_tells _ _ s1.wf)).mono λe W' ⟨he,hm⟩=>?_
 subst he
 exact⟨_,rfl,O8_ (s:=Rows.scriptTellsSpec) rfl hW' (Ko_ hm) Mg_ (Ni_ (ts:=Tryz.f6.params) (by kernel_rfl)) (tb:=4) rfl Tryz.underlying4 rfl⟩
theorem reads (os:Os) {H:Type} (enc:TypeId×Value→H):∃ places,DataW.whole enc Tryz.prog ((laidWR Tryz.prog os 544 546 [(10,Rows.laid_unicode_utf8_first),(11,Rows.laid_unicode_utf8_acceptRanges),(1,Rows.laid_internal_strconv_uint64pow10),(5,Rows.laid_math_bits_deBruijn32tab),(6,Rows.laid_math_bits_deBruijn64tab),(0,Rows.laid_strings_asciiSpace),(3,Rows.laid_stairwell_method_tells),(7,Rows.laid_stairwell_crc_laid)] [(8,Rows.laid_strconv_ErrSyntax),(9,Rows.laid_strconv_ErrRange)] 2 315 318 7 [.int .u16 9, .int .u16 13, .int .u16 1, .int .u16 32, .int .u16 133, .int .u16 101, .int .u16 160, .int .u16 5760, .int .u16 5600, .int .u16 8192, .int .u16 8202, .int .u16 1, .int .u16 8232, .int .u16 8233, .int .u16 1, .int .u16 8239, .int .u16 8287, .int .u16 48, .int .u16 12288, .int .u16 12288, .int .u16 1] 2).forCall (λ_ _=>0) ⟨#[],#[.int .u64 0, .agg #[.int .u8 0, .int .u8 0, .int .u64 0, .int .u64 0, .bool false, .string ⟨#[]⟩, .int .u64 0, .string ⟨#[]⟩, .string ⟨#[]⟩, .slice none 0 0, .string ⟨#[]⟩, .int .u64 0, .int .u8 0]],[]⟩).memory Tryz.f6.params.toList Rows.scriptTellsSpec.vars false (#[.int .u64 0, .agg #[.int .u8 0, .int .u8 0, .int .u64 0, .int .u64 0, .bool false, .string ⟨#[]⟩, .int .u64 0, .string ⟨#[]⟩, .string ⟨#[]⟩, .slice none 0 0, .string ⟨#[]⟩, .int .u64 0, .int .u8 0]]:Array Value).toList 8=some ([.lit (.int .u64 0), .agg [.lit (.int .u8 0), .lit (.int .u8 0), .lit (.int .u64 0), .lit (.int .u64 0), .lit (.bool false), .lit (.string []), .agg [.lit (.int .u64 0), .lit (.string []), .lit (.string []), .nil, .lit (.string []), .lit (.int .u64 0), .lit (.int .u8 0)]]],[],places):=
 ⟨[],by kernel_rfl⟩
theorem lifted (os:Os) (started:os.Started) (H:Type) (enc:TypeId×Value→H) (F:Stop.Interp) :
   ReturnsInHanded {} Tryz.checked os 6 .any ((OpenSpec.ofChange Rows.scriptTellsSpec).preRow enc Tryz.prog Tryz.f6 Rows.scriptTellsRow.domain false Rows.scriptTellsRow.laid) (((OpenSpec.ofChange Rows.scriptTellsSpec).at F).post enc Tryz.prog Tryz.f6 false true false false):=by
 obtain⟨places,hx⟩:=reads os enc
 refine returnsInHanded_of_row (C:=Tryz.checked) (s:=OpenSpec.ofChange Rows.scriptTellsSpec) own started (by kernel_rfl) Tryz.func6
   (witness_row_atRef (enc:=enc) (C:=Tryz.checked) false (laidWR Tryz.prog os 544 546 [(10,Rows.laid_unicode_utf8_first),(11,Rows.laid_unicode_utf8_acceptRanges),(1,Rows.laid_internal_strconv_uint64pow10),(5,Rows.laid_math_bits_deBruijn32tab),(6,Rows.laid_math_bits_deBruijn64tab),(0,Rows.laid_strings_asciiSpace),(3,Rows.laid_stairwell_method_tells),(7,Rows.laid_stairwell_crc_laid)] [(8,Rows.laid_strconv_ErrSyntax),(9,Rows.laid_strconv_ErrRange)] 2 315 318 7 [.int .u16 9, .int .u16 13, .int .u16 1, .int .u16 32, .int .u16 133, .int .u16 101, .int .u16 160, .int .u16 5760, .int .u16 5600, .int .u16 8192, .int .u16 8202, .int .u16 1, .int .u16 8232, .int .u16 8233, .int .u16 1, .int .u16 8239, .int .u16 8287, .int .u16 48, .int .u16 12288, .int .u16 12288, .int .u16 1] 2) #[.int .u64 0, .agg #[.int .u8 0, .int .u8 0, .int .u64 0, .int .u64 0, .bool false, .string ⟨#[]⟩, .int .u64 0, .string ⟨#[]⟩, .string ⟨#[]⟩, .slice none 0 0, .string ⟨#[]⟩, .int .u64 0, .int .u8 0]] rfl (by kernel_rfl) (by kernel_rfl) (by kernel_rfl)
     (OpenSpec.preRow_of_cond 8 hx (by kernel_rfl) (λk hk=>by cases hk) (by kernel_rfl) (O7_ os))) ?_
 intro W base args ds gs before hval hW _ _ hWt hL hS _
 exact contract H enc W base args ds gs before hval hW hWt hL hS
theorem said:Rows.ScriptTellsSaid:=
 OpenClaim.holds_of_cond 6 Tryz.f6 rfl rfl rfl rfl rfl rfl rfl ⟨rfl,rfl,rfl,rfl,rfl⟩ rfl rfl rfl rfl rfl fnm Tryz.func6 closed
   (of_decide_eq_true (by as_aux_lemma=>kernel_rfl)) (by unfold Func.isWrapper;first|(rw[if_pos (by decide +kernel)];kernel_rfl)|(rw[if_neg (by decide +kernel)];exact⟨rfl,rfl⟩))
   (λos started H enc _ F=>by rw[OpenClaim.pre_eq_preRow];exact lifted os started H enc F)
theorem plain (f:FuncId) (fn:Func) (hf:Tryz.pinned.checked.prog.funcNamed "stairwell/stairwelllaw31.ScriptTells" = some f) (hfn:Tryz.pinned.checked.prog.funcs[f]? = some fn) :
   true=Tryz.pinned.checked.prog.looks []∧∀ (j:Nat) t,fn.params[j]? = some t→Tryz.pinned.checked.prog.wantsStandIn t=false:=by
 obtain rfl :f=6:=Option.some.inj ((show Tryz.prog.funcNamed "stairwell/stairwelllaw31.ScriptTells" = some 6 from fnm).symm.trans hf) |>.symm
 obtain rfl :fn=Tryz.f6:=(Option.some.inj (Tryz.func6.symm.trans hfn)).symm
 refine⟨by as_aux_lemma=>kernel_rfl,λj t ht=>?_⟩
 rw[Tryz.params6] at ht
 have hm:t∈[28,57]:=by simpa using Array.mem_of_getElem? ht
 have hall:([28,57].all λu=>!Tryz.prog.wantsStandIn u)=true:=by kernel_rfl
 exact (show Tryz.prog.wantsStandIn t=false by simpa using List.all_eq_true.1 hall t hm)
theorem card:Rows.ScriptTellsCardSaid:=
 Claim7.holds_tied_plain_at .later [] _ _ _ _ said (λ_ h=>by cases h) (by as_aux_lemma=>kernel_rfl) (λ_ h=>by cases h) scriptTells_row_tie rfl ⟨rfl,rfl⟩ (by as_aux_lemma=>kernel_rfl) rfl plain (Go.SW.goes_none rfl (by as_aux_lemma=>kernel_rfl))
#print axioms card
end Go.Proofs.YtlemlalknchmcaaGreatDoor.scriptTells
