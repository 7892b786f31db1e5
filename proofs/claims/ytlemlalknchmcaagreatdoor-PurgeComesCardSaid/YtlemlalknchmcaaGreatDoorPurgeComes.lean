/-
  PurgeComes: for every input the law returns true, and its arguments read as they did; the card, its listed variables tied to the program's text.
  Conditions: the listed package-level variables hold what the program's own text lays in them.
-/
import Derived.Test.YtlemlalknchmcaaGreatDoorPurgeComesP14
import Derived.Test.YtlemlalknchmcaaGreatDoorPurgeComesP2
import Derived.Test.YtlemlalknchmcaaGreatDoorCards
import Derived.Test.YtlemlalknchmcaaGreatDoorPurgeComesP15
import Derived.Deep.DeepHandedRow
import Derived.Deep.DeepWitnessRowRef
import Derived.Stop.LaidErr
import Derived.Test.YtlemlalknchmcaaGreatDoorPurgeComesP16
import Derived.Test.YtlemlalknchmcaaGreatDoorPurgeComesP17
import Derived.KernelRfl
set_option linter.unusedVariables false
set_option linter.unusedSimpArgs false
set_option maxRecDepth 100000
set_option maxHeartbeats 4000000
namespace Go.Proofs.YtlemlalknchmcaaGreatDoor.purgeComes
open Go.ChangeShapes Go.WideShapes Go.ChangeAt Go.RowKit Go.SW Go.Proofs
theorem rdv70:Rdv Tryz.prog 70 Go.SW.An_.pc 2:=λHt enc w base spare held fuel cs x h hw=>by
 obtain⟨xs,n,_,rfl,hcl,hxl,hf⟩:=DataW.trod_struct Tryz.underlying70 h
 obtain⟨z0,q0⟩:=Av_ Tryz.underlying70 hf hxl hw (i:=0) rfl (o:=0) rfl (ft:=5) rfl (k:=1) (by kernel_rfl) (Bk_ Tryz.underlying5)
 obtain⟨z1,q1⟩:=Av_ Tryz.underlying70 hf hxl hw (i:=1) rfl (o:=1) rfl (ft:=68) rfl (k:=1) (by kernel_rfl) (Bk_ Tryz.underlying68)
 have e:=(Bm_ q0 (Fn_ (hcl.trans (by kernel_rfl)) q1))
 rw[List.drop_zero] at e
 exact⟨(⟨z0,z1⟩:Go.SW.An_),e⟩
theorem rdv72:Rdv Tryz.prog 72 Go.SW.Ad_.pc 5:=λHt enc w base spare held fuel cs x h hw=>by
 obtain⟨xs,n,_,rfl,hcl,hxl,hf⟩:=DataW.trod_struct Tryz.underlying72 h
 obtain⟨z0,q0⟩:=Av_ Tryz.underlying72 hf hxl hw (i:=0) rfl (o:=0) rfl (ft:=9) rfl (k:=1) (by kernel_rfl) (Ri_ Tryz.underlying9)
 obtain⟨z1,q1⟩:=Av_ Tryz.underlying72 hf hxl hw (i:=1) rfl (o:=1) rfl (ft:=70) rfl (k:=2) (by kernel_rfl) rdv70
 obtain⟨z2,q2⟩:=Av_ Tryz.underlying72 hf hxl hw (i:=2) rfl (o:=3) rfl (ft:=3) rfl (k:=1) (by kernel_rfl) (Bk_ Tryz.underlying3)
 obtain⟨z3,q3⟩:=Av_ Tryz.underlying72 hf hxl hw (i:=3) rfl (o:=4) rfl (ft:=28) rfl (k:=1) (by kernel_rfl) (Bk_ Tryz.underlying28)
 have e:=(Bm_ q0 (Bm_ q1 (Bm_ q2 (Fn_ (hcl.trans (by kernel_rfl)) q3))))
 rw[List.drop_zero] at e
 exact⟨(⟨z0,z1,z2,z3⟩:Go.SW.Ad_),e⟩
theorem rdvs35:Rdv Tryz.prog 35 (λxs:List Go.SW.Ad_=>[Go.SW.PV.sl Go.SW.Ad_.pc xs]) 1:=Fl_ Tryz.underlying35 (k:=5) (by kernel_rfl) (by decide) (of_decide_eq_true (by kernel_rfl)) rdv72
theorem rdvs36:Rdv Tryz.prog 36 (λxs:List Int=>[Go.SW.PV.sl i64c xs]) 1:=Fl_ Tryz.underlying36 (k:=1) (by kernel_rfl) (by decide) (of_decide_eq_true (by kernel_rfl)) (Bk_ Tryz.underlying3)
theorem rdv75:Rdv Tryz.prog 75 Go.SW.U_.pc 3:=λHt enc w base spare held fuel cs x h hw=>by
 obtain⟨xs,n,_,rfl,hcl,hxl,hf⟩:=DataW.trod_struct Tryz.underlying75 h
 obtain⟨z0,q0⟩:=Av_ Tryz.underlying75 hf hxl hw (i:=0) rfl (o:=0) rfl (ft:=3) rfl (k:=1) (by kernel_rfl) (Bk_ Tryz.underlying3)
 obtain⟨z1,q1⟩:=Av_ Tryz.underlying75 hf hxl hw (i:=1) rfl (o:=1) rfl (ft:=3) rfl (k:=1) (by kernel_rfl) (Bk_ Tryz.underlying3)
 obtain⟨z2,q2⟩:=Av_ Tryz.underlying75 hf hxl hw (i:=2) rfl (o:=2) rfl (ft:=3) rfl (k:=1) (by kernel_rfl) (Bk_ Tryz.underlying3)
 have e:=(Bm_ q0 (Bm_ q1 (Fn_ (hcl.trans (by kernel_rfl)) q2)))
 rw[List.drop_zero] at e
 exact⟨(⟨z0,z1,z2⟩:Go.SW.U_),e⟩
theorem rdvs37:Rdv Tryz.prog 37 (λxs:List Go.SW.U_=>[Go.SW.PV.sl Go.SW.U_.pc xs]) 1:=Fl_ Tryz.underlying37 (k:=3) (by kernel_rfl) (by decide) (of_decide_eq_true (by kernel_rfl)) rdv75
theorem rdv39:Rdv Tryz.prog 39 Go.SW.A_.pc 5:=λHt enc w base spare held fuel cs x h hw=>by
 obtain⟨xs,n,_,rfl,hcl,hxl,hf⟩:=DataW.trod_struct Tryz.underlying39 h
 obtain⟨z0,q0⟩:=Av_ Tryz.underlying39 hf hxl hw (i:=0) rfl (o:=0) rfl (ft:=3) rfl (k:=1) (by kernel_rfl) (Bk_ Tryz.underlying3)
 obtain⟨z1,q1⟩:=Av_ Tryz.underlying39 hf hxl hw (i:=1) rfl (o:=1) rfl (ft:=3) rfl (k:=1) (by kernel_rfl) (Bk_ Tryz.underlying3)
 obtain⟨z2,q2⟩:=Av_ Tryz.underlying39 hf hxl hw (i:=2) rfl (o:=2) rfl (ft:=35) rfl (k:=1) (by kernel_rfl) rdvs35
 obtain⟨z3,q3⟩:=Av_ Tryz.underlying39 hf hxl hw (i:=3) rfl (o:=3) rfl (ft:=36) rfl (k:=1) (by kernel_rfl) rdvs36
 obtain⟨z4,q4⟩:=Av_ Tryz.underlying39 hf hxl hw (i:=4) rfl (o:=4) rfl (ft:=37) rfl (k:=1) (by kernel_rfl) rdvs37
 have e:=(Bm_ q0 (Bm_ q1 (Bm_ q2 (Bm_ q3 (Fn_ (hcl.trans (by kernel_rfl)) q4)))))
 rw[List.drop_zero] at e
 exact⟨(⟨z0,z1,z2,z3,z4⟩:Go.SW.A_),e⟩
theorem rdv30:Rdv Tryz.prog 30 Go.SW.C_.pc 6:=λHt enc w base spare held fuel cs x h hw=>by
 obtain⟨xs,n,_,rfl,hcl,hxl,hf⟩:=DataW.trod_struct Tryz.underlying30 h
 obtain⟨z0,q0⟩:=Av_ Tryz.underlying30 hf hxl hw (i:=0) rfl (o:=0) rfl (ft:=5) rfl (k:=1) (by kernel_rfl) (Bk_ Tryz.underlying5)
 obtain⟨z1,q1⟩:=Av_ Tryz.underlying30 hf hxl hw (i:=1) rfl (o:=1) rfl (ft:=3) rfl (k:=1) (by kernel_rfl) (Bk_ Tryz.underlying3)
 obtain⟨z2,q2⟩:=Av_ Tryz.underlying30 hf hxl hw (i:=2) rfl (o:=2) rfl (ft:=28) rfl (k:=1) (by kernel_rfl) (Bk_ Tryz.underlying28)
 obtain⟨z3,q3⟩:=Av_ Tryz.underlying30 hf hxl hw (i:=3) rfl (o:=3) rfl (ft:=9) rfl (k:=1) (by kernel_rfl) (Ri_ Tryz.underlying9)
 obtain⟨z4,q4⟩:=Av_ Tryz.underlying30 hf hxl hw (i:=4) rfl (o:=4) rfl (ft:=3) rfl (k:=1) (by kernel_rfl) (Bk_ Tryz.underlying3)
 obtain⟨z5,q5⟩:=Av_ Tryz.underlying30 hf hxl hw (i:=5) rfl (o:=5) rfl (ft:=3) rfl (k:=1) (by kernel_rfl) (Bk_ Tryz.underlying3)
 have e:=(Bm_ q0 (Bm_ q1 (Bm_ q2 (Bm_ q3 (Bm_ q4 (Fn_ (hcl.trans (by kernel_rfl)) q5))))))
 rw[List.drop_zero] at e
 exact⟨(⟨z0,z1,z2,z3,z4,z5⟩:Go.SW.C_),e⟩
theorem rdvs25:Rdv Tryz.prog 25 (λxs:List Go.SW.C_=>[Go.SW.PV.sl Go.SW.C_.pc xs]) 1:=Fl_ Tryz.underlying25 (k:=6) (by kernel_rfl) (by decide) (of_decide_eq_true (by kernel_rfl)) rdv30
theorem contract (H:Type) (enc:TypeId×Value→H) (W:World) (base:Nat) (args:Array Value) (ds gs:List (DataW H)) (before:List MemPlace)
   (hval0:∀ (j:Nat) t v,Tryz.f4.params[j]? = some t→args[j]? = some v→Value.okWide Tryz.prog W .any base t v)
   (hW:DataW.Whole enc Tryz.prog Tryz.f4.params.toList Rows.purgeComesSpec.vars false W args.toList ds gs before) (hWt:(DataW.weightsEach Tryz.prog (Tryz.f4.params.toList++(OpenSpec.ofChange Rows.purgeComesSpec).bare.plain.varTypes Tryz.prog) (ds++gs)).all (· ≤ reachBytes)=true) (hL:laidMetH Tryz.prog Rows.purgeComesRow.laid W) (hS:W.ShapedOpen Tryz.prog) :
   Calls Tryz.prog 4 args W λe W'=>∃ v,e = .returned v∧Rows.purgeComesSpec.post enc Tryz.prog Tryz.f4 false true false false W args v W':=by
 have hL0:laidMet Tryz.prog Rows.purgeComesRow.laid W:=by
   rw[MakeChecks.laidMetH_plain _ _ _ (by kernel_rfl)] at hL
   exact hL
 have hW':=hW
 obtain⟨p,q,hA0,hV,rfl,hfz,hnd⟩:=hW
 have hA:DataW.TrodAll enc Tryz.prog W 0 (λ_=>true) true Tryz.f4.params.toList args.toList ds p:=hA0
 have hval:=hval0
 rw[Tryz.params4] at hA hval
 obtain⟨v0,vs0,d0,ds0,p0,q0,hargs,rfl,rfl,h0,r0⟩:=trodAll_cons hA
 obtain⟨v1,vs1,d1,ds1,p1,q1,rfl,rfl,rfl,h1,r1⟩:=trodAll_cons r0
 obtain⟨v2,vs2,d2,ds2,p2,q2,rfl,rfl,rfl,h2,r2⟩:=trodAll_cons r1
 obtain⟨v3,vs3,d3,ds3,p3,q3,rfl,rfl,rfl,h3,r3⟩:=trodAll_cons r2
 obtain⟨rfl,rfl,rfl⟩:=trodAll_nil r3
 obtain rfl :args = #[v0,v1,v2,v3]:=by cases args;simp_all
 obtain⟨rfl,rfl⟩:=trodVars_none hV
 obtain⟨p,s0⟩:=arg_rec Tryz.underlying39 (hval 0 39 v0 rfl rfl) h0 (Vh_ (j:=0) (t:=39) hWt (by kernel_rfl) rfl) rdv39
 obtain⟨from_,s1⟩:=Ov_ Tryz.underlying3 (hval 1 3 v1 rfl rfl) h1
 obtain⟨to_,s2⟩:=Ov_ Tryz.underlying3 (hval 2 3 v2 rfl rfl) h2
 obtain⟨l,s3⟩:=arg_sl Tryz.underlying25 (hval 3 25 v3 rfl rfl) h3 (Vh_ (j:=3) (t:=25) hWt (by kernel_rfl) rfl) rdvs25
 clear hA0 hval0
 have hML:GInt (hp W) 4:=Jb_ (t:=3) (zero:=#[.int .i64 0]) hS (of_decide_eq_true (by kernel_rfl)) (by kernel_rfl) rfl (by kernel_rfl) (by kernel_rfl) Tryz.underlying3
 have hCrc:GTab (hp W) 7 laidT:=Pq_ (g:=7) (n:=16) (by kernel_rfl) (by kernel_rfl) Tryz.underlying450 Tryz.underlying68 (by kernel_rfl) (by kernel_rfl) hL0
 have hTells:GStrs (hp W) 3 tellsT:=Sr_ (g:=3) (zs:=tellsT) (by kernel_rfl) (by kernel_rfl) Tryz.underlying238 Tryz.underlying9 (by kernel_rfl) (by kernel_rfl) (laidMet.tail (laidMet.tail (laidMet.tail hL0)))
 have hPow:GPow (hp W) 1:=Pq_ (g:=1) (n:=20) (by kernel_rfl) (by kernel_rfl) Tryz.underlying219 Tryz.underlying28 (by kernel_rfl) (by kernel_rfl) (laidMet.tail (laidMet.tail (laidMet.tail (laidMet.tail (laidMet.tail (laidMet.tail hL0))))))
 refine (law_run (vs:=[v0,v1,v2,v3]) (Go.SW.V.l32_PurgeComes_ok p from_ to_ l) (show Go.SW.V.gb.p (hp W) from ⟨hML,hCrc,hTells,hPow⟩) (Sims.cons s0 (Sims.cons s1 (Sims.cons s2 (Sims.cons s3 Sims.nil)))) (Go.SW.V.law32_comes _ _ _ _ s0.wf)).mono λe W' ⟨he,hm⟩=>?_
 subst he
 exact⟨_,rfl,Sy_ (s:=Rows.purgeComesSpec) rfl hW' (Oa_ hm) P4_ (Q8_ (ts:=Tryz.f4.params) (by kernel_rfl)) (tb:=4) rfl Tryz.underlying4 rfl⟩
/-- A world for the witness: the settled one, the listed variables holding what their initialisers lay. -/
theorem Sx_ (os:Os):laidMet Tryz.prog Rows.purgeComesRow.laid ((laidWE Tryz.prog os 544 546 [(7,Rows.laid_stairwell_crc_laid),(10,Rows.laid_unicode_utf8_first),(11,Rows.laid_unicode_utf8_acceptRanges),(3,Rows.laid_stairwell_method_tells),(1,Rows.laid_internal_strconv_uint64pow10),(5,Rows.laid_math_bits_deBruijn32tab),(6,Rows.laid_math_bits_deBruijn64tab)] [(8,Rows.laid_strconv_ErrSyntax),(9,Rows.laid_strconv_ErrRange)]).forCall (λ_ _=>0) ⟨#[],#[.agg #[.int .i64 0, .int .i64 0, .slice none 0 0, .slice none 0 0, .slice none 0 0], .int .i64 0, .int .i64 0, .slice none 0 0],[]⟩).memory:=
 laidMet_of_run' 8 (by kernel_rfl) (by kernel_rfl)
theorem reads (os:Os) {H:Type} (enc:TypeId×Value→H):∃ places,DataW.whole enc Tryz.prog ((laidWE Tryz.prog os 544 546 [(7,Rows.laid_stairwell_crc_laid),(10,Rows.laid_unicode_utf8_first),(11,Rows.laid_unicode_utf8_acceptRanges),(3,Rows.laid_stairwell_method_tells),(1,Rows.laid_internal_strconv_uint64pow10),(5,Rows.laid_math_bits_deBruijn32tab),(6,Rows.laid_math_bits_deBruijn64tab)] [(8,Rows.laid_strconv_ErrSyntax),(9,Rows.laid_strconv_ErrRange)]).forCall (λ_ _=>0) ⟨#[],#[.agg #[.int .i64 0, .int .i64 0, .slice none 0 0, .slice none 0 0, .slice none 0 0], .int .i64 0, .int .i64 0, .slice none 0 0],[]⟩).memory Tryz.f4.params.toList Rows.purgeComesSpec.vars false (#[.agg #[.int .i64 0, .int .i64 0, .slice none 0 0, .slice none 0 0, .slice none 0 0], .int .i64 0, .int .i64 0, .slice none 0 0]:Array Value).toList 8=some ([.agg [.lit (.int .i64 0), .lit (.int .i64 0), .nil, .nil, .nil], .lit (.int .i64 0), .lit (.int .i64 0), .nil],[],places):=
 ⟨[],by kernel_rfl⟩
theorem lifted (os:Os) (started:os.Started) (H:Type) (enc:TypeId×Value→H) (F:Stop.Interp) :
   ReturnsInHanded {} Tryz.checked os 4 .any ((OpenSpec.ofChange Rows.purgeComesSpec).preRow enc Tryz.prog Tryz.f4 Rows.purgeComesRow.domain false Rows.purgeComesRow.laid) (((OpenSpec.ofChange Rows.purgeComesSpec).at F).post enc Tryz.prog Tryz.f4 false true false false):=by
 obtain⟨places,hx⟩:=reads os enc
 refine returnsInHanded_of_row (C:=Tryz.checked) (s:=OpenSpec.ofChange Rows.purgeComesSpec) own started (by kernel_rfl) Tryz.func4
   (witness_row_at (enc:=enc) (C:=Tryz.checked) false (laidWE Tryz.prog os 544 546 [(7,Rows.laid_stairwell_crc_laid),(10,Rows.laid_unicode_utf8_first),(11,Rows.laid_unicode_utf8_acceptRanges),(3,Rows.laid_stairwell_method_tells),(1,Rows.laid_internal_strconv_uint64pow10),(5,Rows.laid_math_bits_deBruijn32tab),(6,Rows.laid_math_bits_deBruijn64tab)] [(8,Rows.laid_strconv_ErrSyntax),(9,Rows.laid_strconv_ErrRange)]) #[.agg #[.int .i64 0, .int .i64 0, .slice none 0 0, .slice none 0 0, .slice none 0 0], .int .i64 0, .int .i64 0, .slice none 0 0] rfl (by kernel_rfl) (by kernel_rfl) (by kernel_rfl)
     (OpenSpec.preRow_of_cond 8 hx (by kernel_rfl) (λk hk=>by cases hk) (by kernel_rfl) (Sx_ os))) ?_
 intro W base args ds gs before hval hW _ _ hWt hL hS _
 exact contract H enc W base args ds gs before hval hW hWt hL hS
theorem said:Rows.PurgeComesSaid:=
 OpenClaim.holds_of_cond 4 Tryz.f4 rfl rfl rfl rfl rfl rfl rfl ⟨rfl,rfl,rfl,rfl,rfl⟩ rfl rfl rfl rfl rfl (by as_aux_lemma=>kernel_rfl) Tryz.func4 closed
   (of_decide_eq_true (by as_aux_lemma=>kernel_rfl)) (by unfold Func.isWrapper;first|(rw[if_pos (by decide +kernel)];kernel_rfl)|(rw[if_neg (by decide +kernel)];exact⟨rfl,rfl⟩))
   (λos started H enc _ F=>by rw[OpenClaim.pre_eq_preRow];exact lifted os started H enc F)
theorem plain (f:FuncId) (fn:Func) (hf:Tryz.pinned.checked.prog.funcNamed "stairwell/stairwelllaw32.PurgeComes" = some f) (hfn:Tryz.pinned.checked.prog.funcs[f]? = some fn) :
   true=Tryz.pinned.checked.prog.looks []∧∀ (j:Nat) t,fn.params[j]? = some t→Tryz.pinned.checked.prog.wantsStandIn t=false:=by
 obtain rfl :f=4:=Option.some.inj ((show Tryz.prog.funcNamed "stairwell/stairwelllaw32.PurgeComes" = some 4 by kernel_rfl).symm.trans hf) |>.symm
 obtain rfl :fn=Tryz.f4:=(Option.some.inj (Tryz.func4.symm.trans hfn)).symm
 refine⟨by as_aux_lemma=>kernel_rfl,λj t ht=>?_⟩
 rw[Tryz.params4] at ht
 have hm:t∈[39,3,3,25]:=by simpa using Array.mem_of_getElem? ht
 have hall:([39,3,3,25].all λu=>!Tryz.prog.wantsStandIn u)=true:=by kernel_rfl
 exact (show Tryz.prog.wantsStandIn t=false by simpa using List.all_eq_true.1 hall t hm)
theorem card:Rows.PurgeComesCardSaid:=
 Claim7.holds_tied_plain_at .later [] _ _ _ _ said (λ_ h=>by cases h) (by as_aux_lemma=>kernel_rfl) (λ_ h=>by cases h) purgeComes_row_tie rfl ⟨rfl,rfl⟩ (by as_aux_lemma=>kernel_rfl) rfl plain (Go.SW.goes_none rfl (by as_aux_lemma=>kernel_rfl))
#print axioms card
end Go.Proofs.YtlemlalknchmcaaGreatDoor.purgeComes
