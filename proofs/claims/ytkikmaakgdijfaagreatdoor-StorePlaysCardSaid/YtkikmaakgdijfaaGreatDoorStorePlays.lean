/-
  StorePlays: for every input the law returns true, and its arguments read as they did; the card, its listed variables tied to the program's text.
  Conditions: the listed package-level variables hold what the program's own text lays in them.
-/
import Derived.Test.YtkikmaakgdijfaaGreatDoorStorePlaysP8
import Derived.Test.YtkikmaakgdijfaaGreatDoorStorePlaysP3
import Derived.Test.YtkikmaakgdijfaaGreatDoorCards
import Derived.Test.YtkikmaakgdijfaaGreatDoorTie
import Derived.Deep.DeepHandedRow
import Derived.Deep.DeepWitnessRowRef
import Derived.Stop.LaidErr
import Derived.KernelRfl
set_option linter.unusedVariables false
set_option linter.unusedSimpArgs false
set_option maxRecDepth 100000
set_option maxHeartbeats 4000000
namespace Go.Proofs.YtkikmaakgdijfaaGreatDoor.storePlays
open Go.ChangeShapes Go.WideShapes Go.ChangeAt Go.RowKit Go.SW Go.Proofs
theorem own:ownKnob Tryz.prog.godebug=none:=by kernel_rfl
theorem laidOut:laidOutB Tryz.prog=true:=by kernel_rfl
theorem rdv128:Rdv Tryz.prog 128 Go.SW.C5_.pc 2:=λHt enc w base spare held fuel cs x h hw=>by
 obtain⟨xs,n,_,rfl,hcl,hxl,hf⟩:=DataW.trod_struct Tryz.underlying128 h
 obtain⟨z0,q0⟩:=Cg_ Tryz.underlying128 hf hxl hw (i:=0) rfl (o:=0) rfl (ft:=5) rfl (k:=1) (by kernel_rfl) (Fm_ Tryz.underlying5)
 obtain⟨z1,q1⟩:=Cg_ Tryz.underlying128 hf hxl hw (i:=1) rfl (o:=1) rfl (ft:=126) rfl (k:=1) (by kernel_rfl) (Fm_ Tryz.underlying126)
 have e:=(C3_ q0 (Ks_ (hcl.trans (by kernel_rfl)) q1))
 rw[List.drop_zero] at e
 exact⟨(⟨z0,z1⟩:Go.SW.C5_),e⟩
theorem rdv130:Rdv Tryz.prog 130 Go.SW.Bl_.pc 5:=λHt enc w base spare held fuel cs x h hw=>by
 obtain⟨xs,n,_,rfl,hcl,hxl,hf⟩:=DataW.trod_struct Tryz.underlying130 h
 obtain⟨z0,q0⟩:=Cg_ Tryz.underlying130 hf hxl hw (i:=0) rfl (o:=0) rfl (ft:=9) rfl (k:=1) (by kernel_rfl) (Jb_ Tryz.underlying9)
 obtain⟨z1,q1⟩:=Cg_ Tryz.underlying130 hf hxl hw (i:=1) rfl (o:=1) rfl (ft:=128) rfl (k:=2) (by kernel_rfl) rdv128
 obtain⟨z2,q2⟩:=Cg_ Tryz.underlying130 hf hxl hw (i:=2) rfl (o:=3) rfl (ft:=3) rfl (k:=1) (by kernel_rfl) (Fm_ Tryz.underlying3)
 obtain⟨z3,q3⟩:=Cg_ Tryz.underlying130 hf hxl hw (i:=3) rfl (o:=4) rfl (ft:=36) rfl (k:=1) (by kernel_rfl) (Fm_ Tryz.underlying36)
 have e:=(C3_ q0 (C3_ q1 (C3_ q2 (Ks_ (hcl.trans (by kernel_rfl)) q3))))
 rw[List.drop_zero] at e
 exact⟨(⟨z0,z1,z2,z3⟩:Go.SW.Bl_),e⟩
theorem rdvs22:Rdv Tryz.prog 22 (λxs:List Go.SW.Bl_=>[Go.SW.PV.sl Go.SW.Bl_.pc xs]) 1:=Pk_ Tryz.underlying22 (k:=5) (by kernel_rfl) (by decide) (of_decide_eq_true (by kernel_rfl)) rdv130
theorem rdvs23:Rdv Tryz.prog 23 (λxs:List Int=>[Go.SW.PV.sl i64c xs]) 1:=Pk_ Tryz.underlying23 (k:=1) (by kernel_rfl) (by decide) (of_decide_eq_true (by kernel_rfl)) (Fm_ Tryz.underlying3)
theorem rdv135:Rdv Tryz.prog 135 Go.SW.B1_.pc 3:=λHt enc w base spare held fuel cs x h hw=>by
 obtain⟨xs,n,_,rfl,hcl,hxl,hf⟩:=DataW.trod_struct Tryz.underlying135 h
 obtain⟨z0,q0⟩:=Cg_ Tryz.underlying135 hf hxl hw (i:=0) rfl (o:=0) rfl (ft:=3) rfl (k:=1) (by kernel_rfl) (Fm_ Tryz.underlying3)
 obtain⟨z1,q1⟩:=Cg_ Tryz.underlying135 hf hxl hw (i:=1) rfl (o:=1) rfl (ft:=3) rfl (k:=1) (by kernel_rfl) (Fm_ Tryz.underlying3)
 obtain⟨z2,q2⟩:=Cg_ Tryz.underlying135 hf hxl hw (i:=2) rfl (o:=2) rfl (ft:=3) rfl (k:=1) (by kernel_rfl) (Fm_ Tryz.underlying3)
 have e:=(C3_ q0 (C3_ q1 (Ks_ (hcl.trans (by kernel_rfl)) q2)))
 rw[List.drop_zero] at e
 exact⟨(⟨z0,z1,z2⟩:Go.SW.B1_),e⟩
theorem rdvs24:Rdv Tryz.prog 24 (λxs:List Go.SW.B1_=>[Go.SW.PV.sl Go.SW.B1_.pc xs]) 1:=Pk_ Tryz.underlying24 (k:=3) (by kernel_rfl) (by decide) (of_decide_eq_true (by kernel_rfl)) rdv135
theorem rdv26:Rdv Tryz.prog 26 Go.SW.G_.pc 5:=λHt enc w base spare held fuel cs x h hw=>by
 obtain⟨xs,n,_,rfl,hcl,hxl,hf⟩:=DataW.trod_struct Tryz.underlying26 h
 obtain⟨z0,q0⟩:=Cg_ Tryz.underlying26 hf hxl hw (i:=0) rfl (o:=0) rfl (ft:=3) rfl (k:=1) (by kernel_rfl) (Fm_ Tryz.underlying3)
 obtain⟨z1,q1⟩:=Cg_ Tryz.underlying26 hf hxl hw (i:=1) rfl (o:=1) rfl (ft:=3) rfl (k:=1) (by kernel_rfl) (Fm_ Tryz.underlying3)
 obtain⟨z2,q2⟩:=Cg_ Tryz.underlying26 hf hxl hw (i:=2) rfl (o:=2) rfl (ft:=22) rfl (k:=1) (by kernel_rfl) rdvs22
 obtain⟨z3,q3⟩:=Cg_ Tryz.underlying26 hf hxl hw (i:=3) rfl (o:=3) rfl (ft:=23) rfl (k:=1) (by kernel_rfl) rdvs23
 obtain⟨z4,q4⟩:=Cg_ Tryz.underlying26 hf hxl hw (i:=4) rfl (o:=4) rfl (ft:=24) rfl (k:=1) (by kernel_rfl) rdvs24
 have e:=(C3_ q0 (C3_ q1 (C3_ q2 (C3_ q3 (Ks_ (hcl.trans (by kernel_rfl)) q4)))))
 rw[List.drop_zero] at e
 exact⟨(⟨z0,z1,z2,z3,z4⟩:Go.SW.G_),e⟩
theorem rdv80:Rdv Tryz.prog 80 Go.SW.Z_.pc 3:=λHt enc w base spare held fuel cs x h hw=>by
 obtain⟨xs,n,_,rfl,hcl,hxl,hf⟩:=DataW.trod_struct Tryz.underlying80 h
 obtain⟨z0,q0⟩:=Cg_ Tryz.underlying80 hf hxl hw (i:=0) rfl (o:=0) rfl (ft:=9) rfl (k:=1) (by kernel_rfl) (Jb_ Tryz.underlying9)
 obtain⟨z1,q1⟩:=Cg_ Tryz.underlying80 hf hxl hw (i:=1) rfl (o:=1) rfl (ft:=5) rfl (k:=1) (by kernel_rfl) (Fm_ Tryz.underlying5)
 obtain⟨z2,q2⟩:=Cg_ Tryz.underlying80 hf hxl hw (i:=2) rfl (o:=2) rfl (ft:=9) rfl (k:=1) (by kernel_rfl) (Jb_ Tryz.underlying9)
 have e:=(C3_ q0 (C3_ q1 (Ks_ (hcl.trans (by kernel_rfl)) q2)))
 rw[List.drop_zero] at e
 exact⟨(⟨z0,z1,z2⟩:Go.SW.Z_),e⟩
theorem rdv82:Rdv Tryz.prog 82 Go.SW.Ae_.pc 4:=λHt enc w base spare held fuel cs x h hw=>by
 obtain⟨xs,n,_,rfl,hcl,hxl,hf⟩:=DataW.trod_struct Tryz.underlying82 h
 obtain⟨z0,q0⟩:=Cg_ Tryz.underlying82 hf hxl hw (i:=0) rfl (o:=0) rfl (ft:=9) rfl (k:=1) (by kernel_rfl) (Jb_ Tryz.underlying9)
 obtain⟨z1,q1⟩:=Cg_ Tryz.underlying82 hf hxl hw (i:=1) rfl (o:=1) rfl (ft:=36) rfl (k:=1) (by kernel_rfl) (Fm_ Tryz.underlying36)
 obtain⟨z2,q2⟩:=Cg_ Tryz.underlying82 hf hxl hw (i:=2) rfl (o:=2) rfl (ft:=36) rfl (k:=1) (by kernel_rfl) (Fm_ Tryz.underlying36)
 obtain⟨z3,q3⟩:=Cg_ Tryz.underlying82 hf hxl hw (i:=3) rfl (o:=3) rfl (ft:=9) rfl (k:=1) (by kernel_rfl) (Jb_ Tryz.underlying9)
 have e:=(C3_ q0 (C3_ q1 (C3_ q2 (Ks_ (hcl.trans (by kernel_rfl)) q3))))
 rw[List.drop_zero] at e
 exact⟨(⟨z0,z1,z2,z3⟩:Go.SW.Ae_),e⟩
theorem rdv320:Rdv Tryz.prog 320 Go.SW.Pair.pc 4:=λHt enc w base spare held fuel cs x h hw=>by
 obtain⟨xs,n,_,rfl,hcl,hxl,hf⟩:=DataW.trod_struct Tryz.underlying320 h
 obtain⟨z0,q0⟩:=Cg_ Tryz.underlying320 hf hxl hw (i:=0) rfl (o:=0) rfl (ft:=9) rfl (k:=1) (by kernel_rfl) (Jb_ Tryz.underlying9)
 obtain⟨z1,q1⟩:=Cg_ Tryz.underlying320 hf hxl hw (i:=1) rfl (o:=1) rfl (ft:=5) rfl (k:=1) (by kernel_rfl) (Fm_ Tryz.underlying5)
 obtain⟨z2,q2⟩:=Cg_ Tryz.underlying320 hf hxl hw (i:=2) rfl (o:=2) rfl (ft:=2) rfl (k:=1) (by kernel_rfl) (Fm_ Tryz.underlying2)
 obtain⟨z3,q3⟩:=Cg_ Tryz.underlying320 hf hxl hw (i:=3) rfl (o:=3) rfl (ft:=9) rfl (k:=1) (by kernel_rfl) (Jb_ Tryz.underlying9)
 have e:=(C3_ q0 (C3_ q1 (C3_ q2 (Ks_ (hcl.trans (by kernel_rfl)) q3))))
 rw[List.drop_zero] at e
 exact⟨(⟨z0,z1,z2,z3⟩:Go.SW.Pair),e⟩
theorem rdvs83:Rdv Tryz.prog 83 (λxs:List Go.SW.Pair=>[Go.SW.PV.sl Go.SW.Pair.pc xs]) 1:=Pk_ Tryz.underlying83 (k:=4) (by kernel_rfl) (by decide) (of_decide_eq_true (by kernel_rfl)) rdv320
theorem rdv85:Rdv Tryz.prog 85 Go.SW.R_.pc 6:=λHt enc w base spare held fuel cs x h hw=>by
 obtain⟨xs,n,_,rfl,hcl,hxl,hf⟩:=DataW.trod_struct Tryz.underlying85 h
 obtain⟨z0,q0⟩:=Cg_ Tryz.underlying85 hf hxl hw (i:=0) rfl (o:=0) rfl (ft:=9) rfl (k:=1) (by kernel_rfl) (Jb_ Tryz.underlying9)
 obtain⟨z1,q1⟩:=Cg_ Tryz.underlying85 hf hxl hw (i:=1) rfl (o:=1) rfl (ft:=9) rfl (k:=1) (by kernel_rfl) (Jb_ Tryz.underlying9)
 obtain⟨z2,q2⟩:=Cg_ Tryz.underlying85 hf hxl hw (i:=2) rfl (o:=2) rfl (ft:=4) rfl (k:=1) (by kernel_rfl) (rdv_bool Tryz.underlying4)
 obtain⟨z3,q3⟩:=Cg_ Tryz.underlying85 hf hxl hw (i:=3) rfl (o:=3) rfl (ft:=9) rfl (k:=1) (by kernel_rfl) (Jb_ Tryz.underlying9)
 obtain⟨z4,q4⟩:=Cg_ Tryz.underlying85 hf hxl hw (i:=4) rfl (o:=4) rfl (ft:=83) rfl (k:=1) (by kernel_rfl) rdvs83
 obtain⟨z5,q5⟩:=Cg_ Tryz.underlying85 hf hxl hw (i:=5) rfl (o:=5) rfl (ft:=4) rfl (k:=1) (by kernel_rfl) (rdv_bool Tryz.underlying4)
 have e:=(C3_ q0 (C3_ q1 (C3_ q2 (C3_ q3 (C3_ q4 (Ks_ (hcl.trans (by kernel_rfl)) q5))))))
 rw[List.drop_zero] at e
 exact⟨(⟨z0,z1,z2,z3,z4,z5⟩:Go.SW.R_),e⟩
theorem rdv87:Rdv Tryz.prog 87 Go.SW.Mail.pc 7:=λHt enc w base spare held fuel cs x h hw=>by
 obtain⟨xs,n,_,rfl,hcl,hxl,hf⟩:=DataW.trod_struct Tryz.underlying87 h
 obtain⟨z0,q0⟩:=Cg_ Tryz.underlying87 hf hxl hw (i:=0) rfl (o:=0) rfl (ft:=36) rfl (k:=1) (by kernel_rfl) (Fm_ Tryz.underlying36)
 obtain⟨z1,q1⟩:=Cg_ Tryz.underlying87 hf hxl hw (i:=1) rfl (o:=1) rfl (ft:=9) rfl (k:=1) (by kernel_rfl) (Jb_ Tryz.underlying9)
 obtain⟨z2,q2⟩:=Cg_ Tryz.underlying87 hf hxl hw (i:=2) rfl (o:=2) rfl (ft:=9) rfl (k:=1) (by kernel_rfl) (Jb_ Tryz.underlying9)
 obtain⟨z3,q3⟩:=Cg_ Tryz.underlying87 hf hxl hw (i:=3) rfl (o:=3) rfl (ft:=83) rfl (k:=1) (by kernel_rfl) rdvs83
 obtain⟨z4,q4⟩:=Cg_ Tryz.underlying87 hf hxl hw (i:=4) rfl (o:=4) rfl (ft:=9) rfl (k:=1) (by kernel_rfl) (Jb_ Tryz.underlying9)
 obtain⟨z5,q5⟩:=Cg_ Tryz.underlying87 hf hxl hw (i:=5) rfl (o:=5) rfl (ft:=36) rfl (k:=1) (by kernel_rfl) (Fm_ Tryz.underlying36)
 obtain⟨z6,q6⟩:=Cg_ Tryz.underlying87 hf hxl hw (i:=6) rfl (o:=6) rfl (ft:=5) rfl (k:=1) (by kernel_rfl) (Fm_ Tryz.underlying5)
 have e:=(C3_ q0 (C3_ q1 (C3_ q2 (C3_ q3 (C3_ q4 (C3_ q5 (Ks_ (hcl.trans (by kernel_rfl)) q6)))))))
 rw[List.drop_zero] at e
 exact⟨(⟨z0,z1,z2,z3,z4,z5,z6⟩:Go.SW.Mail),e⟩
theorem rdv89:Rdv Tryz.prog 89 Go.SW.Aa_.pc 29:=λHt enc w base spare held fuel cs x h hw=>by
 obtain⟨xs,n,_,rfl,hcl,hxl,hf⟩:=DataW.trod_struct Tryz.underlying89 h
 obtain⟨z0,q0⟩:=Cg_ Tryz.underlying89 hf hxl hw (i:=0) rfl (o:=0) rfl (ft:=5) rfl (k:=1) (by kernel_rfl) (Fm_ Tryz.underlying5)
 obtain⟨z1,q1⟩:=Cg_ Tryz.underlying89 hf hxl hw (i:=1) rfl (o:=1) rfl (ft:=36) rfl (k:=1) (by kernel_rfl) (Fm_ Tryz.underlying36)
 obtain⟨z2,q2⟩:=Cg_ Tryz.underlying89 hf hxl hw (i:=2) rfl (o:=2) rfl (ft:=80) rfl (k:=3) (by kernel_rfl) rdv80
 obtain⟨z3,q3⟩:=Cg_ Tryz.underlying89 hf hxl hw (i:=3) rfl (o:=5) rfl (ft:=82) rfl (k:=4) (by kernel_rfl) rdv82
 obtain⟨z4,q4⟩:=Cg_ Tryz.underlying89 hf hxl hw (i:=4) rfl (o:=9) rfl (ft:=85) rfl (k:=6) (by kernel_rfl) rdv85
 obtain⟨z5,q5⟩:=Cg_ Tryz.underlying89 hf hxl hw (i:=5) rfl (o:=15) rfl (ft:=9) rfl (k:=1) (by kernel_rfl) (Jb_ Tryz.underlying9)
 obtain⟨z6,q6⟩:=Cg_ Tryz.underlying89 hf hxl hw (i:=6) rfl (o:=16) rfl (ft:=36) rfl (k:=1) (by kernel_rfl) (Fm_ Tryz.underlying36)
 obtain⟨z7,q7⟩:=Cg_ Tryz.underlying89 hf hxl hw (i:=7) rfl (o:=17) rfl (ft:=5) rfl (k:=1) (by kernel_rfl) (Fm_ Tryz.underlying5)
 obtain⟨z8,q8⟩:=Cg_ Tryz.underlying89 hf hxl hw (i:=8) rfl (o:=18) rfl (ft:=5) rfl (k:=1) (by kernel_rfl) (Fm_ Tryz.underlying5)
 obtain⟨z9,q9⟩:=Cg_ Tryz.underlying89 hf hxl hw (i:=9) rfl (o:=19) rfl (ft:=5) rfl (k:=1) (by kernel_rfl) (Fm_ Tryz.underlying5)
 obtain⟨z10,q10⟩:=Cg_ Tryz.underlying89 hf hxl hw (i:=10) rfl (o:=20) rfl (ft:=36) rfl (k:=1) (by kernel_rfl) (Fm_ Tryz.underlying36)
 obtain⟨z11,q11⟩:=Cg_ Tryz.underlying89 hf hxl hw (i:=11) rfl (o:=21) rfl (ft:=87) rfl (k:=7) (by kernel_rfl) rdv87
 obtain⟨z12,q12⟩:=Cg_ Tryz.underlying89 hf hxl hw (i:=12) rfl (o:=28) rfl (ft:=9) rfl (k:=1) (by kernel_rfl) (Jb_ Tryz.underlying9)
 have e:=(C3_ q0 (C3_ q1 (C3_ q2 (C3_ q3 (C3_ q4 (C3_ q5 (C3_ q6 (C3_ q7 (C3_ q8 (C3_ q9 (C3_ q10 (C3_ q11 (Ks_ (hcl.trans (by kernel_rfl)) q12)))))))))))))
 rw[List.drop_zero] at e
 exact⟨(⟨z0,z1,z2,z3,z4,z5,z6,z7,z8,z9,z10,z11,z12⟩:Go.SW.Aa_),e⟩
theorem rdvs27:Rdv Tryz.prog 27 (λxs:List Go.SW.Aa_=>[Go.SW.PV.sl Go.SW.Aa_.pc xs]) 1:=Pk_ Tryz.underlying27 (k:=29) (by kernel_rfl) (by decide) (of_decide_eq_true (by kernel_rfl)) rdv89
theorem Ui_ (H:Type) (enc:TypeId×Value→H) (W:World) (base:Nat) (args:Array Value) (ds gs:List (DataW H)) (before:List MemPlace)
   (hval0:∀ (j:Nat) t v,Tryz.f3.params[j]? = some t→args[j]? = some v→Value.okWide Tryz.prog W .any base t v)
   (hW:DataW.Whole enc Tryz.prog Tryz.f3.params.toList Rows.storePlaysSpec.vars false W args.toList ds gs before) (hWt:(DataW.weightsEach Tryz.prog (Tryz.f3.params.toList++(OpenSpec.ofChange Rows.storePlaysSpec).bare.plain.varTypes Tryz.prog) (ds++gs)).all (· ≤ reachBytes)=true) (hL:laidMetH Tryz.prog Rows.storePlaysRow.laid W) (hS:W.ShapedOpen Tryz.prog) :
   Calls Tryz.prog 3 args W λe W'=>∃ v,e = .returned v∧Rows.storePlaysSpec.post enc Tryz.prog Tryz.f3 false true false false W args v W':=by
 have hL0:laidMet Tryz.prog Rows.storePlaysRow.laid W:=by
   rw[MakeChecks.laidMetH_plain _ _ _ (by kernel_rfl)] at hL
   exact hL
 have hW':=hW
 obtain⟨p,q,hA0,hV,rfl,hfz,hnd⟩:=hW
 have hA:DataW.TrodAll enc Tryz.prog W 0 (λ_=>true) true Tryz.f3.params.toList args.toList ds p:=hA0
 have hval:=hval0
 rw[Tryz.params3] at hA hval
 obtain⟨v0,vs0,d0,ds0,p0,q0,hargs,rfl,rfl,h0,r0⟩:=trodAll_cons hA
 obtain⟨v1,vs1,d1,ds1,p1,q1,rfl,rfl,rfl,h1,r1⟩:=trodAll_cons r0
 obtain⟨v2,vs2,d2,ds2,p2,q2,rfl,rfl,rfl,h2,r2⟩:=trodAll_cons r1
 obtain⟨rfl,rfl,rfl⟩:=trodAll_nil r2
 obtain rfl :args = #[v0,v1,v2]:=by cases args;simp_all
 obtain⟨rfl,rfl⟩:=trodVars_none hV
 obtain⟨p,s0⟩:=arg_rec Tryz.underlying26 (hval 0 26 v0 rfl rfl) h0 (wt_arg (j:=0) (t:=26) hWt (by kernel_rfl) rfl) rdv26
 obtain⟨place,s1⟩:=arg_int Tryz.underlying5 (hval 1 5 v1 rfl rfl) h1
 obtain⟨l,s2⟩:=arg_sl Tryz.underlying27 (hval 2 27 v2 rfl rfl) h2 (wt_arg (j:=2) (t:=27) hWt (by kernel_rfl) rfl) rdvs27
 clear hA0 hval0
 have hML:GInt (hp W) 0:=Ze_ (t:=3) (zero:=#[.int .i64 0]) hS (of_decide_eq_true (by kernel_rfl)) (by kernel_rfl) rfl (by kernel_rfl) (by kernel_rfl) Tryz.underlying3
 have hPow:GPow (hp W) 5:=gtab_of (g:=5) (n:=20) (by kernel_rfl) (by kernel_rfl) Tryz.underlying536 Tryz.underlying36 (by kernel_rfl) (by kernel_rfl) (laidMet.tail (laidMet.tail hL0))
 refine (law_run (vs:=[v0,v1,v2]) (Go.SW.V.l23_StorePlays_ok p place l) (show Go.SW.V.gb.p (hp W) from ⟨hML,hPow⟩) (Sims.cons s0 (Sims.cons s1 (Sims.cons s2 Sims.nil))) (Go.SW.V.law23_plays _ _ _ s0.wf s2.wf)).mono λe W' ⟨he,hm⟩=>?_
 subst he
 exact⟨_,rfl,law_post (s:=Rows.storePlaysSpec) rfl hW' (mem0_below hm) laidOut (params_ok (ts:=Tryz.f3.params) (by kernel_rfl)) (tb:=4) rfl Tryz.underlying4 rfl⟩
/-- A world for the witness: the settled one, the listed variables holding what their initialisers lay. -/
theorem laid_met (os:Os):laidMet Tryz.prog Rows.storePlaysRow.laid ((laidWE Tryz.prog os 527 529 [(6,Rows.laid_math_bits_deBruijn32tab),(7,Rows.laid_math_bits_deBruijn64tab),(5,Rows.laid_internal_strconv_uint64pow10),(2,Rows.laid_unicode_utf8_acceptRanges),(1,Rows.laid_unicode_utf8_first)] [(4,Rows.laid_strconv_ErrRange),(3,Rows.laid_strconv_ErrSyntax)]).forCall (λ_ _=>0) ⟨#[],#[.agg #[.int .i64 0, .int .i64 0, .slice none 0 0, .slice none 0 0, .slice none 0 0], .int .u8 0, .slice none 0 0],[]⟩).memory:=
 laidMet_of_run' 8 (by kernel_rfl) (by kernel_rfl)
theorem reads (os:Os) {H:Type} (enc:TypeId×Value→H):∃ places,DataW.whole enc Tryz.prog ((laidWE Tryz.prog os 527 529 [(6,Rows.laid_math_bits_deBruijn32tab),(7,Rows.laid_math_bits_deBruijn64tab),(5,Rows.laid_internal_strconv_uint64pow10),(2,Rows.laid_unicode_utf8_acceptRanges),(1,Rows.laid_unicode_utf8_first)] [(4,Rows.laid_strconv_ErrRange),(3,Rows.laid_strconv_ErrSyntax)]).forCall (λ_ _=>0) ⟨#[],#[.agg #[.int .i64 0, .int .i64 0, .slice none 0 0, .slice none 0 0, .slice none 0 0], .int .u8 0, .slice none 0 0],[]⟩).memory Tryz.f3.params.toList Rows.storePlaysSpec.vars false (#[.agg #[.int .i64 0, .int .i64 0, .slice none 0 0, .slice none 0 0, .slice none 0 0], .int .u8 0, .slice none 0 0]:Array Value).toList 8=some ([.agg [.lit (.int .i64 0), .lit (.int .i64 0), .nil, .nil, .nil], .lit (.int .u8 0), .nil],[],places):=
 ⟨[],by kernel_rfl⟩
theorem lifted (os:Os) (started:os.Started) (H:Type) (enc:TypeId×Value→H) (F:Stop.Interp) :
   ReturnsInHanded {} Tryz.checked os 3 .any ((OpenSpec.ofChange Rows.storePlaysSpec).preRow enc Tryz.prog Tryz.f3 Rows.storePlaysRow.domain false Rows.storePlaysRow.laid) (((OpenSpec.ofChange Rows.storePlaysSpec).at F).post enc Tryz.prog Tryz.f3 false true false false):=by
 obtain⟨places,hx⟩:=reads os enc
 refine returnsInHanded_of_row (C:=Tryz.checked) (s:=OpenSpec.ofChange Rows.storePlaysSpec) own started (by kernel_rfl) Tryz.func3
   (witness_row_at (enc:=enc) (C:=Tryz.checked) false (laidWE Tryz.prog os 527 529 [(6,Rows.laid_math_bits_deBruijn32tab),(7,Rows.laid_math_bits_deBruijn64tab),(5,Rows.laid_internal_strconv_uint64pow10),(2,Rows.laid_unicode_utf8_acceptRanges),(1,Rows.laid_unicode_utf8_first)] [(4,Rows.laid_strconv_ErrRange),(3,Rows.laid_strconv_ErrSyntax)]) #[.agg #[.int .i64 0, .int .i64 0, .slice none 0 0, .slice none 0 0, .slice none 0 0], .int .u8 0, .slice none 0 0] rfl (by kernel_rfl) (by kernel_rfl) (by kernel_rfl)
     (OpenSpec.preRow_of_cond 8 hx (by kernel_rfl) (λk hk=>by cases hk) (by kernel_rfl) (laid_met os))) ?_
 intro W base args ds gs before hval hW _ _ hWt hL hS _
 exact Ui_ H enc W base args ds gs before hval hW hWt hL hS
theorem closed:joinedFacts Tryz.pinned.checked.prog 3 Tryz.f3 (OpenSpec.ofChange Rows.storePlaysSpec).bare Rows.storePlaysRow=true:=by
 unfold joinedFacts
 simp only[Bool.and_eq_true]
 repeat' (refine And.intro ?_ ?_)
 all_goals (as_aux_lemma=>kernel_rfl)
theorem said:Rows.StorePlaysSaid:=
 OpenClaim.holds_of_cond 3 Tryz.f3 rfl rfl rfl rfl rfl rfl rfl ⟨rfl,rfl,rfl,rfl,rfl⟩ rfl rfl rfl rfl rfl (by as_aux_lemma=>kernel_rfl) Tryz.func3 closed
   (of_decide_eq_true (by as_aux_lemma=>kernel_rfl)) (by unfold Func.isWrapper;first|(rw[if_pos (by decide +kernel)];kernel_rfl)|(rw[if_neg (by decide +kernel)];exact⟨rfl,rfl⟩))
   (λos started H enc _ F=>by rw[OpenClaim.pre_eq_preRow];exact lifted os started H enc F)
theorem plain (f:FuncId) (fn:Func) (hf:Tryz.pinned.checked.prog.funcNamed "stairwell/stairwelllaw23.StorePlays" = some f) (hfn:Tryz.pinned.checked.prog.funcs[f]? = some fn) :
   true=Tryz.pinned.checked.prog.looks []∧∀ (j:Nat) t,fn.params[j]? = some t→Tryz.pinned.checked.prog.wantsStandIn t=false:=by
 obtain rfl :f=3:=Option.some.inj ((show Tryz.prog.funcNamed "stairwell/stairwelllaw23.StorePlays" = some 3 by kernel_rfl).symm.trans hf) |>.symm
 obtain rfl :fn=Tryz.f3:=(Option.some.inj (Tryz.func3.symm.trans hfn)).symm
 refine⟨by as_aux_lemma=>kernel_rfl,λj t ht=>?_⟩
 rw[Tryz.params3] at ht
 have hm:t∈[26,5,27]:=by simpa using Array.mem_of_getElem? ht
 have hall:([26,5,27].all λu=>!Tryz.prog.wantsStandIn u)=true:=by kernel_rfl
 exact (show Tryz.prog.wantsStandIn t=false by simpa using List.all_eq_true.1 hall t hm)
theorem card:Rows.StorePlaysCardSaid:=
 Claim7.holds_tied_plain_at .later [] _ _ _ _ said (λ_ h=>by cases h) (by as_aux_lemma=>kernel_rfl) (λ_ h=>by cases h) storePlays_row_tie rfl ⟨rfl,rfl⟩ (by as_aux_lemma=>kernel_rfl) rfl plain (Go.SW.goes_none rfl (by as_aux_lemma=>kernel_rfl))
#print axioms card
end Go.Proofs.YtkikmaakgdijfaaGreatDoor.storePlays
