/-
  ImageShort: for every input the law returns true, and its arguments read as they did; the card, its listed variables tied to the program's text.
  Conditions: the listed package-level variables hold what the program's own text lays in them.
-/
import Derived.Test.YtdanlhjbbojfgaaGreatDoorImageShortP7
import Derived.Test.YtdanlhjbbojfgaaGreatDoorImageShortP3
import Derived.Test.YtdanlhjbbojfgaaGreatDoorCards
import Derived.Test.YtdanlhjbbojfgaaGreatDoorTie
import Derived.Deep.DeepHandedRow
import Derived.Deep.DeepWitnessRowRef
import Derived.Stop.LaidErr
import Derived.KernelRfl
set_option linter.unusedVariables false
set_option linter.unusedSimpArgs false
set_option maxRecDepth 100000
set_option maxHeartbeats 4000000
namespace Go.Proofs.YtdanlhjbbojfgaaGreatDoor.imageShort
open Go.ChangeShapes Go.WideShapes Go.ChangeAt Go.RowKit Go.SW Go.Proofs
theorem own:ownKnob Tryz.prog.godebug=none:=by kernel_rfl
theorem laidOut:laidOutB Tryz.prog=true:=by kernel_rfl
theorem rdv127:Rdv Tryz.prog 127 Go.SW.LabelR.pc 2:=fun Ht enc w base spare held fuel cs x h hw=>by
  obtain⟨xs,n,_,rfl,hcl,hxl,hf⟩:=DataW.trod_struct Tryz.underlying127 h
  obtain⟨z0,q0⟩:=A2_ Tryz.underlying127 hf hxl hw (i:=0) rfl (o:=0) rfl (ft:=5) rfl (k:=1) (by kernel_rfl) (Ep_ Tryz.underlying5)
  obtain⟨z1,q1⟩:=A2_ Tryz.underlying127 hf hxl hw (i:=1) rfl (o:=1) rfl (ft:=125) rfl (k:=1) (by kernel_rfl) (Ep_ Tryz.underlying125)
  have e:=(Bz_ q0 (Iq_ (hcl.trans (by kernel_rfl)) q1))
  rw[List.drop_zero] at e
  exact⟨(⟨z0,z1⟩:Go.SW.LabelR),e⟩
theorem rdv129:Rdv Tryz.prog 129 Go.SW.PlaceR.pc 5:=fun Ht enc w base spare held fuel cs x h hw=>by
  obtain⟨xs,n,_,rfl,hcl,hxl,hf⟩:=DataW.trod_struct Tryz.underlying129 h
  obtain⟨z0,q0⟩:=A2_ Tryz.underlying129 hf hxl hw (i:=0) rfl (o:=0) rfl (ft:=9) rfl (k:=1) (by kernel_rfl) (Hs_ Tryz.underlying9)
  obtain⟨z1,q1⟩:=A2_ Tryz.underlying129 hf hxl hw (i:=1) rfl (o:=1) rfl (ft:=127) rfl (k:=2) (by kernel_rfl) rdv127
  obtain⟨z2,q2⟩:=A2_ Tryz.underlying129 hf hxl hw (i:=2) rfl (o:=3) rfl (ft:=3) rfl (k:=1) (by kernel_rfl) (Ep_ Tryz.underlying3)
  obtain⟨z3,q3⟩:=A2_ Tryz.underlying129 hf hxl hw (i:=3) rfl (o:=4) rfl (ft:=22) rfl (k:=1) (by kernel_rfl) (Ep_ Tryz.underlying22)
  have e:=(Bz_ q0 (Bz_ q1 (Bz_ q2 (Iq_ (hcl.trans (by kernel_rfl)) q3))))
  rw[List.drop_zero] at e
  exact⟨(⟨z0,z1,z2,z3⟩:Go.SW.PlaceR),e⟩
theorem rdvs31:Rdv Tryz.prog 31 (fun xs:List Go.SW.PlaceR=>[Go.SW.PV.sl Go.SW.PlaceR.pc xs]) 1:=Mh_ Tryz.underlying31 (k:=5) (by kernel_rfl) (by decide) (of_decide_eq_true (by kernel_rfl)) rdv129
theorem rdvs32:Rdv Tryz.prog 32 (fun xs:List Int=>[Go.SW.PV.sl i64c xs]) 1:=Mh_ Tryz.underlying32 (k:=1) (by kernel_rfl) (by decide) (of_decide_eq_true (by kernel_rfl)) (Ep_ Tryz.underlying3)
theorem rdv146:Rdv Tryz.prog 146 Go.SW.GrantR.pc 3:=fun Ht enc w base spare held fuel cs x h hw=>by
  obtain⟨xs,n,_,rfl,hcl,hxl,hf⟩:=DataW.trod_struct Tryz.underlying146 h
  obtain⟨z0,q0⟩:=A2_ Tryz.underlying146 hf hxl hw (i:=0) rfl (o:=0) rfl (ft:=3) rfl (k:=1) (by kernel_rfl) (Ep_ Tryz.underlying3)
  obtain⟨z1,q1⟩:=A2_ Tryz.underlying146 hf hxl hw (i:=1) rfl (o:=1) rfl (ft:=3) rfl (k:=1) (by kernel_rfl) (Ep_ Tryz.underlying3)
  obtain⟨z2,q2⟩:=A2_ Tryz.underlying146 hf hxl hw (i:=2) rfl (o:=2) rfl (ft:=3) rfl (k:=1) (by kernel_rfl) (Ep_ Tryz.underlying3)
  have e:=(Bz_ q0 (Bz_ q1 (Iq_ (hcl.trans (by kernel_rfl)) q2)))
  rw[List.drop_zero] at e
  exact⟨(⟨z0,z1,z2⟩:Go.SW.GrantR),e⟩
theorem rdvs33:Rdv Tryz.prog 33 (fun xs:List Go.SW.GrantR=>[Go.SW.PV.sl Go.SW.GrantR.pc xs]) 1:=Mh_ Tryz.underlying33 (k:=3) (by kernel_rfl) (by decide) (of_decide_eq_true (by kernel_rfl)) rdv146
theorem rdv35:Rdv Tryz.prog 35 Go.SW.PolicyR.pc 5:=fun Ht enc w base spare held fuel cs x h hw=>by
  obtain⟨xs,n,_,rfl,hcl,hxl,hf⟩:=DataW.trod_struct Tryz.underlying35 h
  obtain⟨z0,q0⟩:=A2_ Tryz.underlying35 hf hxl hw (i:=0) rfl (o:=0) rfl (ft:=3) rfl (k:=1) (by kernel_rfl) (Ep_ Tryz.underlying3)
  obtain⟨z1,q1⟩:=A2_ Tryz.underlying35 hf hxl hw (i:=1) rfl (o:=1) rfl (ft:=3) rfl (k:=1) (by kernel_rfl) (Ep_ Tryz.underlying3)
  obtain⟨z2,q2⟩:=A2_ Tryz.underlying35 hf hxl hw (i:=2) rfl (o:=2) rfl (ft:=31) rfl (k:=1) (by kernel_rfl) rdvs31
  obtain⟨z3,q3⟩:=A2_ Tryz.underlying35 hf hxl hw (i:=3) rfl (o:=3) rfl (ft:=32) rfl (k:=1) (by kernel_rfl) rdvs32
  obtain⟨z4,q4⟩:=A2_ Tryz.underlying35 hf hxl hw (i:=4) rfl (o:=4) rfl (ft:=33) rfl (k:=1) (by kernel_rfl) rdvs33
  have e:=(Bz_ q0 (Bz_ q1 (Bz_ q2 (Bz_ q3 (Iq_ (hcl.trans (by kernel_rfl)) q4)))))
  rw[List.drop_zero] at e
  exact⟨(⟨z0,z1,z2,z3,z4⟩:Go.SW.PolicyR),e⟩
theorem rdv64:Rdv Tryz.prog 64 Go.SW.ShopR.pc 3:=fun Ht enc w base spare held fuel cs x h hw=>by
  obtain⟨xs,n,_,rfl,hcl,hxl,hf⟩:=DataW.trod_struct Tryz.underlying64 h
  obtain⟨z0,q0⟩:=A2_ Tryz.underlying64 hf hxl hw (i:=0) rfl (o:=0) rfl (ft:=9) rfl (k:=1) (by kernel_rfl) (Hs_ Tryz.underlying9)
  obtain⟨z1,q1⟩:=A2_ Tryz.underlying64 hf hxl hw (i:=1) rfl (o:=1) rfl (ft:=5) rfl (k:=1) (by kernel_rfl) (Ep_ Tryz.underlying5)
  obtain⟨z2,q2⟩:=A2_ Tryz.underlying64 hf hxl hw (i:=2) rfl (o:=2) rfl (ft:=9) rfl (k:=1) (by kernel_rfl) (Hs_ Tryz.underlying9)
  have e:=(Bz_ q0 (Bz_ q1 (Iq_ (hcl.trans (by kernel_rfl)) q2)))
  rw[List.drop_zero] at e
  exact⟨(⟨z0,z1,z2⟩:Go.SW.ShopR),e⟩
theorem rdv66:Rdv Tryz.prog 66 Go.SW.QueueR.pc 4:=fun Ht enc w base spare held fuel cs x h hw=>by
  obtain⟨xs,n,_,rfl,hcl,hxl,hf⟩:=DataW.trod_struct Tryz.underlying66 h
  obtain⟨z0,q0⟩:=A2_ Tryz.underlying66 hf hxl hw (i:=0) rfl (o:=0) rfl (ft:=9) rfl (k:=1) (by kernel_rfl) (Hs_ Tryz.underlying9)
  obtain⟨z1,q1⟩:=A2_ Tryz.underlying66 hf hxl hw (i:=1) rfl (o:=1) rfl (ft:=22) rfl (k:=1) (by kernel_rfl) (Ep_ Tryz.underlying22)
  obtain⟨z2,q2⟩:=A2_ Tryz.underlying66 hf hxl hw (i:=2) rfl (o:=2) rfl (ft:=22) rfl (k:=1) (by kernel_rfl) (Ep_ Tryz.underlying22)
  obtain⟨z3,q3⟩:=A2_ Tryz.underlying66 hf hxl hw (i:=3) rfl (o:=3) rfl (ft:=9) rfl (k:=1) (by kernel_rfl) (Hs_ Tryz.underlying9)
  have e:=(Bz_ q0 (Bz_ q1 (Bz_ q2 (Iq_ (hcl.trans (by kernel_rfl)) q3))))
  rw[List.drop_zero] at e
  exact⟨(⟨z0,z1,z2,z3⟩:Go.SW.QueueR),e⟩
theorem rdv268:Rdv Tryz.prog 268 Go.SW.Pair.pc 4:=fun Ht enc w base spare held fuel cs x h hw=>by
  obtain⟨xs,n,_,rfl,hcl,hxl,hf⟩:=DataW.trod_struct Tryz.underlying268 h
  obtain⟨z0,q0⟩:=A2_ Tryz.underlying268 hf hxl hw (i:=0) rfl (o:=0) rfl (ft:=9) rfl (k:=1) (by kernel_rfl) (Hs_ Tryz.underlying9)
  obtain⟨z1,q1⟩:=A2_ Tryz.underlying268 hf hxl hw (i:=1) rfl (o:=1) rfl (ft:=5) rfl (k:=1) (by kernel_rfl) (Ep_ Tryz.underlying5)
  obtain⟨z2,q2⟩:=A2_ Tryz.underlying268 hf hxl hw (i:=2) rfl (o:=2) rfl (ft:=2) rfl (k:=1) (by kernel_rfl) (Ep_ Tryz.underlying2)
  obtain⟨z3,q3⟩:=A2_ Tryz.underlying268 hf hxl hw (i:=3) rfl (o:=3) rfl (ft:=9) rfl (k:=1) (by kernel_rfl) (Hs_ Tryz.underlying9)
  have e:=(Bz_ q0 (Bz_ q1 (Bz_ q2 (Iq_ (hcl.trans (by kernel_rfl)) q3))))
  rw[List.drop_zero] at e
  exact⟨(⟨z0,z1,z2,z3⟩:Go.SW.Pair),e⟩
theorem rdvs67:Rdv Tryz.prog 67 (fun xs:List Go.SW.Pair=>[Go.SW.PV.sl Go.SW.Pair.pc xs]) 1:=Mh_ Tryz.underlying67 (k:=4) (by kernel_rfl) (by decide) (of_decide_eq_true (by kernel_rfl)) rdv268
theorem rdv69:Rdv Tryz.prog 69 Go.SW.BindR.pc 6:=fun Ht enc w base spare held fuel cs x h hw=>by
  obtain⟨xs,n,_,rfl,hcl,hxl,hf⟩:=DataW.trod_struct Tryz.underlying69 h
  obtain⟨z0,q0⟩:=A2_ Tryz.underlying69 hf hxl hw (i:=0) rfl (o:=0) rfl (ft:=9) rfl (k:=1) (by kernel_rfl) (Hs_ Tryz.underlying9)
  obtain⟨z1,q1⟩:=A2_ Tryz.underlying69 hf hxl hw (i:=1) rfl (o:=1) rfl (ft:=9) rfl (k:=1) (by kernel_rfl) (Hs_ Tryz.underlying9)
  obtain⟨z2,q2⟩:=A2_ Tryz.underlying69 hf hxl hw (i:=2) rfl (o:=2) rfl (ft:=4) rfl (k:=1) (by kernel_rfl) (rdv_bool Tryz.underlying4)
  obtain⟨z3,q3⟩:=A2_ Tryz.underlying69 hf hxl hw (i:=3) rfl (o:=3) rfl (ft:=9) rfl (k:=1) (by kernel_rfl) (Hs_ Tryz.underlying9)
  obtain⟨z4,q4⟩:=A2_ Tryz.underlying69 hf hxl hw (i:=4) rfl (o:=4) rfl (ft:=67) rfl (k:=1) (by kernel_rfl) rdvs67
  obtain⟨z5,q5⟩:=A2_ Tryz.underlying69 hf hxl hw (i:=5) rfl (o:=5) rfl (ft:=4) rfl (k:=1) (by kernel_rfl) (rdv_bool Tryz.underlying4)
  have e:=(Bz_ q0 (Bz_ q1 (Bz_ q2 (Bz_ q3 (Bz_ q4 (Iq_ (hcl.trans (by kernel_rfl)) q5))))))
  rw[List.drop_zero] at e
  exact⟨(⟨z0,z1,z2,z3,z4,z5⟩:Go.SW.BindR),e⟩
theorem rdv71:Rdv Tryz.prog 71 Go.SW.Mail.pc 7:=fun Ht enc w base spare held fuel cs x h hw=>by
  obtain⟨xs,n,_,rfl,hcl,hxl,hf⟩:=DataW.trod_struct Tryz.underlying71 h
  obtain⟨z0,q0⟩:=A2_ Tryz.underlying71 hf hxl hw (i:=0) rfl (o:=0) rfl (ft:=22) rfl (k:=1) (by kernel_rfl) (Ep_ Tryz.underlying22)
  obtain⟨z1,q1⟩:=A2_ Tryz.underlying71 hf hxl hw (i:=1) rfl (o:=1) rfl (ft:=9) rfl (k:=1) (by kernel_rfl) (Hs_ Tryz.underlying9)
  obtain⟨z2,q2⟩:=A2_ Tryz.underlying71 hf hxl hw (i:=2) rfl (o:=2) rfl (ft:=9) rfl (k:=1) (by kernel_rfl) (Hs_ Tryz.underlying9)
  obtain⟨z3,q3⟩:=A2_ Tryz.underlying71 hf hxl hw (i:=3) rfl (o:=3) rfl (ft:=67) rfl (k:=1) (by kernel_rfl) rdvs67
  obtain⟨z4,q4⟩:=A2_ Tryz.underlying71 hf hxl hw (i:=4) rfl (o:=4) rfl (ft:=9) rfl (k:=1) (by kernel_rfl) (Hs_ Tryz.underlying9)
  obtain⟨z5,q5⟩:=A2_ Tryz.underlying71 hf hxl hw (i:=5) rfl (o:=5) rfl (ft:=22) rfl (k:=1) (by kernel_rfl) (Ep_ Tryz.underlying22)
  obtain⟨z6,q6⟩:=A2_ Tryz.underlying71 hf hxl hw (i:=6) rfl (o:=6) rfl (ft:=5) rfl (k:=1) (by kernel_rfl) (Ep_ Tryz.underlying5)
  have e:=(Bz_ q0 (Bz_ q1 (Bz_ q2 (Bz_ q3 (Bz_ q4 (Bz_ q5 (Iq_ (hcl.trans (by kernel_rfl)) q6)))))))
  rw[List.drop_zero] at e
  exact⟨(⟨z0,z1,z2,z3,z4,z5,z6⟩:Go.SW.Mail),e⟩
theorem rdv73:Rdv Tryz.prog 73 Go.SW.DeedR.pc 29:=fun Ht enc w base spare held fuel cs x h hw=>by
  obtain⟨xs,n,_,rfl,hcl,hxl,hf⟩:=DataW.trod_struct Tryz.underlying73 h
  obtain⟨z0,q0⟩:=A2_ Tryz.underlying73 hf hxl hw (i:=0) rfl (o:=0) rfl (ft:=5) rfl (k:=1) (by kernel_rfl) (Ep_ Tryz.underlying5)
  obtain⟨z1,q1⟩:=A2_ Tryz.underlying73 hf hxl hw (i:=1) rfl (o:=1) rfl (ft:=22) rfl (k:=1) (by kernel_rfl) (Ep_ Tryz.underlying22)
  obtain⟨z2,q2⟩:=A2_ Tryz.underlying73 hf hxl hw (i:=2) rfl (o:=2) rfl (ft:=64) rfl (k:=3) (by kernel_rfl) rdv64
  obtain⟨z3,q3⟩:=A2_ Tryz.underlying73 hf hxl hw (i:=3) rfl (o:=5) rfl (ft:=66) rfl (k:=4) (by kernel_rfl) rdv66
  obtain⟨z4,q4⟩:=A2_ Tryz.underlying73 hf hxl hw (i:=4) rfl (o:=9) rfl (ft:=69) rfl (k:=6) (by kernel_rfl) rdv69
  obtain⟨z5,q5⟩:=A2_ Tryz.underlying73 hf hxl hw (i:=5) rfl (o:=15) rfl (ft:=9) rfl (k:=1) (by kernel_rfl) (Hs_ Tryz.underlying9)
  obtain⟨z6,q6⟩:=A2_ Tryz.underlying73 hf hxl hw (i:=6) rfl (o:=16) rfl (ft:=22) rfl (k:=1) (by kernel_rfl) (Ep_ Tryz.underlying22)
  obtain⟨z7,q7⟩:=A2_ Tryz.underlying73 hf hxl hw (i:=7) rfl (o:=17) rfl (ft:=5) rfl (k:=1) (by kernel_rfl) (Ep_ Tryz.underlying5)
  obtain⟨z8,q8⟩:=A2_ Tryz.underlying73 hf hxl hw (i:=8) rfl (o:=18) rfl (ft:=5) rfl (k:=1) (by kernel_rfl) (Ep_ Tryz.underlying5)
  obtain⟨z9,q9⟩:=A2_ Tryz.underlying73 hf hxl hw (i:=9) rfl (o:=19) rfl (ft:=5) rfl (k:=1) (by kernel_rfl) (Ep_ Tryz.underlying5)
  obtain⟨z10,q10⟩:=A2_ Tryz.underlying73 hf hxl hw (i:=10) rfl (o:=20) rfl (ft:=22) rfl (k:=1) (by kernel_rfl) (Ep_ Tryz.underlying22)
  obtain⟨z11,q11⟩:=A2_ Tryz.underlying73 hf hxl hw (i:=11) rfl (o:=21) rfl (ft:=71) rfl (k:=7) (by kernel_rfl) rdv71
  obtain⟨z12,q12⟩:=A2_ Tryz.underlying73 hf hxl hw (i:=12) rfl (o:=28) rfl (ft:=9) rfl (k:=1) (by kernel_rfl) (Hs_ Tryz.underlying9)
  have e:=(Bz_ q0 (Bz_ q1 (Bz_ q2 (Bz_ q3 (Bz_ q4 (Bz_ q5 (Bz_ q6 (Bz_ q7 (Bz_ q8 (Bz_ q9 (Bz_ q10 (Bz_ q11 (Iq_ (hcl.trans (by kernel_rfl)) q12)))))))))))))
  rw[List.drop_zero] at e
  exact⟨(⟨z0,z1,z2,z3,z4,z5,z6,z7,z8,z9,z10,z11,z12⟩:Go.SW.DeedR),e⟩
theorem rdvs36:Rdv Tryz.prog 36 (fun xs:List Go.SW.DeedR=>[Go.SW.PV.sl Go.SW.DeedR.pc xs]) 1:=Mh_ Tryz.underlying36 (k:=29) (by kernel_rfl) (by decide) (of_decide_eq_true (by kernel_rfl)) rdv73
theorem P1_ (H:Type) (enc:TypeId×Value→H) (W:World) (base:Nat) (args:Array Value) (ds gs:List (DataW H)) (before:List MemPlace)
    (hval0:∀ (j:Nat) t v,Tryz.f5.params[j]? = some t→args[j]? = some v→Value.okWide Tryz.prog W .any base t v)
    (hW:DataW.Whole enc Tryz.prog Tryz.f5.params.toList Rows.imageShortSpec.vars false W args.toList ds gs before) (hWt:(DataW.weightsEach Tryz.prog (Tryz.f5.params.toList++(OpenSpec.ofChange Rows.imageShortSpec).bare.plain.varTypes Tryz.prog) (ds++gs)).all (· ≤ reachBytes)=true) (hL:laidMetH Tryz.prog Rows.imageShortRow.laid W) (hS:W.ShapedOpen Tryz.prog) :
    Calls Tryz.prog 5 args W fun e W'=>∃ v,e = .returned v∧Rows.imageShortSpec.post enc Tryz.prog Tryz.f5 false true false false W args v W':=by
  have hL0:laidMet Tryz.prog Rows.imageShortRow.laid W:=by
    rw[MakeChecks.laidMetH_plain _ _ _ (by kernel_rfl)] at hL
    exact hL
  have hW':=hW
  obtain⟨p,q,hA0,hV,rfl,hfz,hnd⟩:=hW
  have hA:DataW.TrodAll enc Tryz.prog W 0 (fun _=>true) true Tryz.f5.params.toList args.toList ds p:=hA0
  have hval:=hval0
  rw[Tryz.params5] at hA hval
  obtain⟨v0,vs0,d0,ds0,p0,q0,hargs,rfl,rfl,h0,r0⟩:=trodAll_cons hA
  obtain⟨v1,vs1,d1,ds1,p1,q1,rfl,rfl,rfl,h1,r1⟩:=trodAll_cons r0
  obtain⟨v2,vs2,d2,ds2,p2,q2,rfl,rfl,rfl,h2,r2⟩:=trodAll_cons r1
  obtain⟨v3,vs3,d3,ds3,p3,q3,rfl,rfl,rfl,h3,r3⟩:=trodAll_cons r2
  obtain⟨rfl,rfl,rfl⟩:=trodAll_nil r3
  obtain rfl :args = #[v0,v1,v2,v3]:=by cases args;simp_all
  obtain⟨rfl,rfl⟩:=trodVars_none hV
  obtain⟨p,s0⟩:=arg_rec Tryz.underlying35 (hval 0 35 v0 rfl rfl) h0 (wt_arg (j:=0) (t:=35) hWt (by kernel_rfl) rfl) rdv35
  obtain⟨place,s1⟩:=arg_int Tryz.underlying5 (hval 1 5 v1 rfl rfl) h1
  obtain⟨l,s2⟩:=arg_sl Tryz.underlying36 (hval 2 36 v2 rfl rfl) h2 (wt_arg (j:=2) (t:=36) hWt (by kernel_rfl) rfl) rdvs36
  obtain⟨cut,s3⟩:=arg_int Tryz.underlying112 (hval 3 112 v3 rfl rfl) h3
  clear hA0 hval0
  have hML:GInt (hp W) 0:=Ui_ (t:=3) (zero:=#[.int .i64 0]) hS (of_decide_eq_true (by kernel_rfl)) (by kernel_rfl) rfl (by kernel_rfl) (by kernel_rfl) Tryz.underlying3
  have hPow:GPow (hp W) 1:=gtab_of (g:=1) (n:=20) (by kernel_rfl) (by kernel_rfl) Tryz.underlying388 Tryz.underlying22 (by kernel_rfl) (by kernel_rfl) (laidMet.tail (laidMet.tail hL0))
  refine (law_run (vs:=[v0,v1,v2,v3]) (Go.SW.V.l24_ImageShort_ok p place l cut) (show Go.SW.V.gb.p (hp W) from ⟨hML,hPow⟩) (Sims.cons s0 (Sims.cons s1 (Sims.cons s2 (Sims.cons s3 Sims.nil)))) (Go.SW.V.law24_short _ _ _ _ s2.wf)).mono fun e W' ⟨he,hm⟩=>?_
  subst he
  exact⟨_,rfl,law_post (s:=Rows.imageShortSpec) rfl hW' (mem0_below hm) laidOut (params_ok (ts:=Tryz.f5.params) (by kernel_rfl)) (tb:=4) rfl Tryz.underlying4 rfl⟩
/-- A world for the witness: the settled one, the listed variables holding what their initialisers lay. -/
theorem laid_met (os:Os):laidMet Tryz.prog Rows.imageShortRow.laid ((laidWE Tryz.prog os 456 458 [(2,Rows.laid_math_bits_deBruijn32tab),(3,Rows.laid_math_bits_deBruijn64tab),(1,Rows.laid_internal_strconv_uint64pow10),(5,Rows.laid_unicode_utf8_acceptRanges),(4,Rows.laid_unicode_utf8_first)] [(7,Rows.laid_strconv_ErrRange),(6,Rows.laid_strconv_ErrSyntax)]).forCall (fun _ _=>0) ⟨#[],#[.agg #[.int .i64 0, .int .i64 0, .slice none 0 0, .slice none 0 0, .slice none 0 0], .int .u8 0, .slice none 0 0, .int .u16 0],[]⟩).memory:=
  laidMet_of_run' 8 (by kernel_rfl) (by kernel_rfl)
theorem reads (os:Os) {H:Type} (enc:TypeId×Value→H):∃ places,DataW.whole enc Tryz.prog ((laidWE Tryz.prog os 456 458 [(2,Rows.laid_math_bits_deBruijn32tab),(3,Rows.laid_math_bits_deBruijn64tab),(1,Rows.laid_internal_strconv_uint64pow10),(5,Rows.laid_unicode_utf8_acceptRanges),(4,Rows.laid_unicode_utf8_first)] [(7,Rows.laid_strconv_ErrRange),(6,Rows.laid_strconv_ErrSyntax)]).forCall (fun _ _=>0) ⟨#[],#[.agg #[.int .i64 0, .int .i64 0, .slice none 0 0, .slice none 0 0, .slice none 0 0], .int .u8 0, .slice none 0 0, .int .u16 0],[]⟩).memory Tryz.f5.params.toList Rows.imageShortSpec.vars false (#[.agg #[.int .i64 0, .int .i64 0, .slice none 0 0, .slice none 0 0, .slice none 0 0], .int .u8 0, .slice none 0 0, .int .u16 0]:Array Value).toList 8=some ([.agg [.lit (.int .i64 0), .lit (.int .i64 0), .nil, .nil, .nil], .lit (.int .u8 0), .nil, .lit (.int .u16 0)],[],places):=
  ⟨[],by kernel_rfl⟩
theorem lifted (os:Os) (started:os.Started) (H:Type) (enc:TypeId×Value→H) (F:Stop.Interp) :
    ReturnsInHanded {} Tryz.checked os 5 .any ((OpenSpec.ofChange Rows.imageShortSpec).preRow enc Tryz.prog Tryz.f5 Rows.imageShortRow.domain false Rows.imageShortRow.laid) (((OpenSpec.ofChange Rows.imageShortSpec).at F).post enc Tryz.prog Tryz.f5 false true false false):=by
  obtain⟨places,hx⟩:=reads os enc
  refine returnsInHanded_of_row (C:=Tryz.checked) (s:=OpenSpec.ofChange Rows.imageShortSpec) own started (by kernel_rfl) Tryz.func5
    (witness_row_at (enc:=enc) (C:=Tryz.checked) false (laidWE Tryz.prog os 456 458 [(2,Rows.laid_math_bits_deBruijn32tab),(3,Rows.laid_math_bits_deBruijn64tab),(1,Rows.laid_internal_strconv_uint64pow10),(5,Rows.laid_unicode_utf8_acceptRanges),(4,Rows.laid_unicode_utf8_first)] [(7,Rows.laid_strconv_ErrRange),(6,Rows.laid_strconv_ErrSyntax)]) #[.agg #[.int .i64 0, .int .i64 0, .slice none 0 0, .slice none 0 0, .slice none 0 0], .int .u8 0, .slice none 0 0, .int .u16 0] rfl (by kernel_rfl) (by kernel_rfl) (by kernel_rfl)
      (OpenSpec.preRow_of_cond 8 hx (by kernel_rfl) (fun k hk=>by cases hk) (by kernel_rfl) (laid_met os))) ?_
  intro W base args ds gs before hval hW _ _ hWt hL hS _
  exact P1_ H enc W base args ds gs before hval hW hWt hL hS
theorem closed:joinedFacts Tryz.pinned.checked.prog 5 Tryz.f5 (OpenSpec.ofChange Rows.imageShortSpec).bare Rows.imageShortRow=true:=by
  unfold joinedFacts
  simp only[Bool.and_eq_true]
  repeat' (refine And.intro ?_ ?_)
  all_goals (as_aux_lemma=>kernel_rfl)
theorem said:Rows.ImageShortSaid:=
  OpenClaim.holds_of_cond 5 Tryz.f5 rfl rfl rfl rfl rfl rfl rfl ⟨rfl,rfl,rfl,rfl,rfl⟩ rfl rfl rfl rfl rfl (by as_aux_lemma=>kernel_rfl) Tryz.func5 closed
    (of_decide_eq_true (by as_aux_lemma=>kernel_rfl)) (by unfold Func.isWrapper;first|(rw[if_pos (by decide +kernel)];kernel_rfl)|(rw[if_neg (by decide +kernel)];exact⟨rfl,rfl⟩))
    (fun os started H enc _ F=>by rw[OpenClaim.pre_eq_preRow];exact lifted os started H enc F)
theorem plain (f:FuncId) (fn:Func) (hf:Tryz.pinned.checked.prog.funcNamed "stairwell/stairwelllaw24.ImageShort" = some f) (hfn:Tryz.pinned.checked.prog.funcs[f]? = some fn) :
    true=Tryz.pinned.checked.prog.looks []∧∀ (j:Nat) t,fn.params[j]? = some t→Tryz.pinned.checked.prog.wantsStandIn t=false:=by
  obtain rfl :f=5:=Option.some.inj ((show Tryz.prog.funcNamed "stairwell/stairwelllaw24.ImageShort" = some 5 by kernel_rfl).symm.trans hf) |>.symm
  obtain rfl :fn=Tryz.f5:=(Option.some.inj (Tryz.func5.symm.trans hfn)).symm
  refine⟨by as_aux_lemma=>kernel_rfl,fun j t ht=>?_⟩
  rw[Tryz.params5] at ht
  have hm:t∈[35,5,36,112]:=by simpa using Array.mem_of_getElem? ht
  have hall:([35,5,36,112].all fun u=>!Tryz.prog.wantsStandIn u)=true:=by kernel_rfl
  exact (show Tryz.prog.wantsStandIn t=false by simpa using List.all_eq_true.1 hall t hm)
theorem card:Rows.ImageShortCardSaid:=
  Claim7.holds_tied_plain_at .later [] _ _ _ _ said (fun _ h=>by cases h) (by as_aux_lemma=>kernel_rfl) (fun _ h=>by cases h) imageShort_row_tie rfl ⟨rfl,rfl⟩ (by as_aux_lemma=>kernel_rfl) rfl plain (by as_aux_lemma=>kernel_rfl)
#print axioms card
end Go.Proofs.YtdanlhjbbojfgaaGreatDoor.imageShort
