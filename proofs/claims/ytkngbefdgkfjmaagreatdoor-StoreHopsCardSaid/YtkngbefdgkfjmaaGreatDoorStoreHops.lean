/-
  StoreHops: for every input the law returns true, and its arguments read as they did; the card, its listed variables tied to the program's text.
  Conditions: the listed package-level variables hold what the program's own text lays in them.
-/
import Derived.Test.YtkngbefdgkfjmaaGreatDoorStoreHopsP6
import Derived.Test.YtkngbefdgkfjmaaGreatDoorStoreHopsP3
import Derived.Test.YtkngbefdgkfjmaaGreatDoorStoreHopsP7
import Derived.Test.YtkngbefdgkfjmaaGreatDoorCards
import Derived.Test.YtkngbefdgkfjmaaGreatDoorTie
import Derived.Deep.DeepHandedRow
import Derived.Deep.DeepWitnessRowRef
import Derived.Stop.LaidErr
import Derived.KernelRfl
set_option linter.unusedVariables false
set_option linter.unusedSimpArgs false
set_option maxRecDepth 100000
set_option maxHeartbeats 4000000
namespace Go.Proofs.YtkngbefdgkfjmaaGreatDoor.storeHops
open Go.ChangeShapes Go.WideShapes Go.ChangeAt Go.RowKit Go.SW Go.Proofs
theorem own:ownKnob Tryz.prog.godebug=none:=by kernel_rfl
theorem laidOut:laidOutB Tryz.prog=true:=by kernel_rfl
theorem rdv92:Rdv Tryz.prog 92 Go.SW.LabelR.pc 2:=fun Ht enc w base spare held fuel cs x h hw=>by
  obtain⟨xs,n,_,rfl,hcl,hxl,hf⟩:=DataW.trod_struct Tryz.underlying92 h
  obtain⟨z0,q0⟩:=Ao_ Tryz.underlying92 hf hxl hw (i:=0) rfl (o:=0) rfl (ft:=5) rfl (k:=1) (by kernel_rfl) (Dh_ Tryz.underlying5)
  obtain⟨z1,q1⟩:=Ao_ Tryz.underlying92 hf hxl hw (i:=1) rfl (o:=1) rfl (ft:=90) rfl (k:=1) (by kernel_rfl) (Dh_ Tryz.underlying90)
  have e:=(Bd_ q0 (Gu_ (hcl.trans (by kernel_rfl)) q1))
  rw[List.drop_zero] at e
  exact⟨(⟨z0,z1⟩:Go.SW.LabelR),e⟩
theorem rdv94:Rdv Tryz.prog 94 Go.SW.PlaceR.pc 5:=fun Ht enc w base spare held fuel cs x h hw=>by
  obtain⟨xs,n,_,rfl,hcl,hxl,hf⟩:=DataW.trod_struct Tryz.underlying94 h
  obtain⟨z0,q0⟩:=Ao_ Tryz.underlying94 hf hxl hw (i:=0) rfl (o:=0) rfl (ft:=9) rfl (k:=1) (by kernel_rfl) (Fz_ Tryz.underlying9)
  obtain⟨z1,q1⟩:=Ao_ Tryz.underlying94 hf hxl hw (i:=1) rfl (o:=1) rfl (ft:=92) rfl (k:=2) (by kernel_rfl) rdv92
  obtain⟨z2,q2⟩:=Ao_ Tryz.underlying94 hf hxl hw (i:=2) rfl (o:=3) rfl (ft:=3) rfl (k:=1) (by kernel_rfl) (Dh_ Tryz.underlying3)
  obtain⟨z3,q3⟩:=Ao_ Tryz.underlying94 hf hxl hw (i:=3) rfl (o:=4) rfl (ft:=36) rfl (k:=1) (by kernel_rfl) (Dh_ Tryz.underlying36)
  have e:=(Bd_ q0 (Bd_ q1 (Bd_ q2 (Gu_ (hcl.trans (by kernel_rfl)) q3))))
  rw[List.drop_zero] at e
  exact⟨(⟨z0,z1,z2,z3⟩:Go.SW.PlaceR),e⟩
theorem rdvs22:Rdv Tryz.prog 22 (fun xs:List Go.SW.PlaceR=>[Go.SW.PV.sl Go.SW.PlaceR.pc xs]) 1:=Jz_ Tryz.underlying22 (k:=5) (by kernel_rfl) (by decide) (of_decide_eq_true (by kernel_rfl)) rdv94
theorem rdvs23:Rdv Tryz.prog 23 (fun xs:List Int=>[Go.SW.PV.sl i64c xs]) 1:=Jz_ Tryz.underlying23 (k:=1) (by kernel_rfl) (by decide) (of_decide_eq_true (by kernel_rfl)) (Dh_ Tryz.underlying3)
theorem rdv87:Rdv Tryz.prog 87 Go.SW.GrantR.pc 3:=fun Ht enc w base spare held fuel cs x h hw=>by
  obtain⟨xs,n,_,rfl,hcl,hxl,hf⟩:=DataW.trod_struct Tryz.underlying87 h
  obtain⟨z0,q0⟩:=Ao_ Tryz.underlying87 hf hxl hw (i:=0) rfl (o:=0) rfl (ft:=3) rfl (k:=1) (by kernel_rfl) (Dh_ Tryz.underlying3)
  obtain⟨z1,q1⟩:=Ao_ Tryz.underlying87 hf hxl hw (i:=1) rfl (o:=1) rfl (ft:=3) rfl (k:=1) (by kernel_rfl) (Dh_ Tryz.underlying3)
  obtain⟨z2,q2⟩:=Ao_ Tryz.underlying87 hf hxl hw (i:=2) rfl (o:=2) rfl (ft:=3) rfl (k:=1) (by kernel_rfl) (Dh_ Tryz.underlying3)
  have e:=(Bd_ q0 (Bd_ q1 (Gu_ (hcl.trans (by kernel_rfl)) q2)))
  rw[List.drop_zero] at e
  exact⟨(⟨z0,z1,z2⟩:Go.SW.GrantR),e⟩
theorem rdvs24:Rdv Tryz.prog 24 (fun xs:List Go.SW.GrantR=>[Go.SW.PV.sl Go.SW.GrantR.pc xs]) 1:=Jz_ Tryz.underlying24 (k:=3) (by kernel_rfl) (by decide) (of_decide_eq_true (by kernel_rfl)) rdv87
theorem rdv26:Rdv Tryz.prog 26 Go.SW.PolicyR.pc 5:=fun Ht enc w base spare held fuel cs x h hw=>by
  obtain⟨xs,n,_,rfl,hcl,hxl,hf⟩:=DataW.trod_struct Tryz.underlying26 h
  obtain⟨z0,q0⟩:=Ao_ Tryz.underlying26 hf hxl hw (i:=0) rfl (o:=0) rfl (ft:=3) rfl (k:=1) (by kernel_rfl) (Dh_ Tryz.underlying3)
  obtain⟨z1,q1⟩:=Ao_ Tryz.underlying26 hf hxl hw (i:=1) rfl (o:=1) rfl (ft:=3) rfl (k:=1) (by kernel_rfl) (Dh_ Tryz.underlying3)
  obtain⟨z2,q2⟩:=Ao_ Tryz.underlying26 hf hxl hw (i:=2) rfl (o:=2) rfl (ft:=22) rfl (k:=1) (by kernel_rfl) rdvs22
  obtain⟨z3,q3⟩:=Ao_ Tryz.underlying26 hf hxl hw (i:=3) rfl (o:=3) rfl (ft:=23) rfl (k:=1) (by kernel_rfl) rdvs23
  obtain⟨z4,q4⟩:=Ao_ Tryz.underlying26 hf hxl hw (i:=4) rfl (o:=4) rfl (ft:=24) rfl (k:=1) (by kernel_rfl) rdvs24
  have e:=(Bd_ q0 (Bd_ q1 (Bd_ q2 (Bd_ q3 (Gu_ (hcl.trans (by kernel_rfl)) q4)))))
  rw[List.drop_zero] at e
  exact⟨(⟨z0,z1,z2,z3,z4⟩:Go.SW.PolicyR),e⟩
theorem rdv58:Rdv Tryz.prog 58 Go.SW.ShopR.pc 3:=fun Ht enc w base spare held fuel cs x h hw=>by
  obtain⟨xs,n,_,rfl,hcl,hxl,hf⟩:=DataW.trod_struct Tryz.underlying58 h
  obtain⟨z0,q0⟩:=Ao_ Tryz.underlying58 hf hxl hw (i:=0) rfl (o:=0) rfl (ft:=9) rfl (k:=1) (by kernel_rfl) (Fz_ Tryz.underlying9)
  obtain⟨z1,q1⟩:=Ao_ Tryz.underlying58 hf hxl hw (i:=1) rfl (o:=1) rfl (ft:=5) rfl (k:=1) (by kernel_rfl) (Dh_ Tryz.underlying5)
  obtain⟨z2,q2⟩:=Ao_ Tryz.underlying58 hf hxl hw (i:=2) rfl (o:=2) rfl (ft:=9) rfl (k:=1) (by kernel_rfl) (Fz_ Tryz.underlying9)
  have e:=(Bd_ q0 (Bd_ q1 (Gu_ (hcl.trans (by kernel_rfl)) q2)))
  rw[List.drop_zero] at e
  exact⟨(⟨z0,z1,z2⟩:Go.SW.ShopR),e⟩
theorem rdv60:Rdv Tryz.prog 60 Go.SW.QueueR.pc 4:=fun Ht enc w base spare held fuel cs x h hw=>by
  obtain⟨xs,n,_,rfl,hcl,hxl,hf⟩:=DataW.trod_struct Tryz.underlying60 h
  obtain⟨z0,q0⟩:=Ao_ Tryz.underlying60 hf hxl hw (i:=0) rfl (o:=0) rfl (ft:=9) rfl (k:=1) (by kernel_rfl) (Fz_ Tryz.underlying9)
  obtain⟨z1,q1⟩:=Ao_ Tryz.underlying60 hf hxl hw (i:=1) rfl (o:=1) rfl (ft:=36) rfl (k:=1) (by kernel_rfl) (Dh_ Tryz.underlying36)
  obtain⟨z2,q2⟩:=Ao_ Tryz.underlying60 hf hxl hw (i:=2) rfl (o:=2) rfl (ft:=36) rfl (k:=1) (by kernel_rfl) (Dh_ Tryz.underlying36)
  obtain⟨z3,q3⟩:=Ao_ Tryz.underlying60 hf hxl hw (i:=3) rfl (o:=3) rfl (ft:=9) rfl (k:=1) (by kernel_rfl) (Fz_ Tryz.underlying9)
  have e:=(Bd_ q0 (Bd_ q1 (Bd_ q2 (Gu_ (hcl.trans (by kernel_rfl)) q3))))
  rw[List.drop_zero] at e
  exact⟨(⟨z0,z1,z2,z3⟩:Go.SW.QueueR),e⟩
theorem rdv242:Rdv Tryz.prog 242 Go.SW.Pair.pc 4:=fun Ht enc w base spare held fuel cs x h hw=>by
  obtain⟨xs,n,_,rfl,hcl,hxl,hf⟩:=DataW.trod_struct Tryz.underlying242 h
  obtain⟨z0,q0⟩:=Ao_ Tryz.underlying242 hf hxl hw (i:=0) rfl (o:=0) rfl (ft:=9) rfl (k:=1) (by kernel_rfl) (Fz_ Tryz.underlying9)
  obtain⟨z1,q1⟩:=Ao_ Tryz.underlying242 hf hxl hw (i:=1) rfl (o:=1) rfl (ft:=5) rfl (k:=1) (by kernel_rfl) (Dh_ Tryz.underlying5)
  obtain⟨z2,q2⟩:=Ao_ Tryz.underlying242 hf hxl hw (i:=2) rfl (o:=2) rfl (ft:=2) rfl (k:=1) (by kernel_rfl) (Dh_ Tryz.underlying2)
  obtain⟨z3,q3⟩:=Ao_ Tryz.underlying242 hf hxl hw (i:=3) rfl (o:=3) rfl (ft:=9) rfl (k:=1) (by kernel_rfl) (Fz_ Tryz.underlying9)
  have e:=(Bd_ q0 (Bd_ q1 (Bd_ q2 (Gu_ (hcl.trans (by kernel_rfl)) q3))))
  rw[List.drop_zero] at e
  exact⟨(⟨z0,z1,z2,z3⟩:Go.SW.Pair),e⟩
theorem rdvs61:Rdv Tryz.prog 61 (fun xs:List Go.SW.Pair=>[Go.SW.PV.sl Go.SW.Pair.pc xs]) 1:=Jz_ Tryz.underlying61 (k:=4) (by kernel_rfl) (by decide) (of_decide_eq_true (by kernel_rfl)) rdv242
theorem rdv63:Rdv Tryz.prog 63 Go.SW.BindR.pc 6:=fun Ht enc w base spare held fuel cs x h hw=>by
  obtain⟨xs,n,_,rfl,hcl,hxl,hf⟩:=DataW.trod_struct Tryz.underlying63 h
  obtain⟨z0,q0⟩:=Ao_ Tryz.underlying63 hf hxl hw (i:=0) rfl (o:=0) rfl (ft:=9) rfl (k:=1) (by kernel_rfl) (Fz_ Tryz.underlying9)
  obtain⟨z1,q1⟩:=Ao_ Tryz.underlying63 hf hxl hw (i:=1) rfl (o:=1) rfl (ft:=9) rfl (k:=1) (by kernel_rfl) (Fz_ Tryz.underlying9)
  obtain⟨z2,q2⟩:=Ao_ Tryz.underlying63 hf hxl hw (i:=2) rfl (o:=2) rfl (ft:=4) rfl (k:=1) (by kernel_rfl) (W7_ Tryz.underlying4)
  obtain⟨z3,q3⟩:=Ao_ Tryz.underlying63 hf hxl hw (i:=3) rfl (o:=3) rfl (ft:=9) rfl (k:=1) (by kernel_rfl) (Fz_ Tryz.underlying9)
  obtain⟨z4,q4⟩:=Ao_ Tryz.underlying63 hf hxl hw (i:=4) rfl (o:=4) rfl (ft:=61) rfl (k:=1) (by kernel_rfl) rdvs61
  obtain⟨z5,q5⟩:=Ao_ Tryz.underlying63 hf hxl hw (i:=5) rfl (o:=5) rfl (ft:=4) rfl (k:=1) (by kernel_rfl) (W7_ Tryz.underlying4)
  have e:=(Bd_ q0 (Bd_ q1 (Bd_ q2 (Bd_ q3 (Bd_ q4 (Gu_ (hcl.trans (by kernel_rfl)) q5))))))
  rw[List.drop_zero] at e
  exact⟨(⟨z0,z1,z2,z3,z4,z5⟩:Go.SW.BindR),e⟩
theorem rdv65:Rdv Tryz.prog 65 Go.SW.Mail.pc 7:=fun Ht enc w base spare held fuel cs x h hw=>by
  obtain⟨xs,n,_,rfl,hcl,hxl,hf⟩:=DataW.trod_struct Tryz.underlying65 h
  obtain⟨z0,q0⟩:=Ao_ Tryz.underlying65 hf hxl hw (i:=0) rfl (o:=0) rfl (ft:=36) rfl (k:=1) (by kernel_rfl) (Dh_ Tryz.underlying36)
  obtain⟨z1,q1⟩:=Ao_ Tryz.underlying65 hf hxl hw (i:=1) rfl (o:=1) rfl (ft:=9) rfl (k:=1) (by kernel_rfl) (Fz_ Tryz.underlying9)
  obtain⟨z2,q2⟩:=Ao_ Tryz.underlying65 hf hxl hw (i:=2) rfl (o:=2) rfl (ft:=9) rfl (k:=1) (by kernel_rfl) (Fz_ Tryz.underlying9)
  obtain⟨z3,q3⟩:=Ao_ Tryz.underlying65 hf hxl hw (i:=3) rfl (o:=3) rfl (ft:=61) rfl (k:=1) (by kernel_rfl) rdvs61
  obtain⟨z4,q4⟩:=Ao_ Tryz.underlying65 hf hxl hw (i:=4) rfl (o:=4) rfl (ft:=9) rfl (k:=1) (by kernel_rfl) (Fz_ Tryz.underlying9)
  obtain⟨z5,q5⟩:=Ao_ Tryz.underlying65 hf hxl hw (i:=5) rfl (o:=5) rfl (ft:=36) rfl (k:=1) (by kernel_rfl) (Dh_ Tryz.underlying36)
  obtain⟨z6,q6⟩:=Ao_ Tryz.underlying65 hf hxl hw (i:=6) rfl (o:=6) rfl (ft:=5) rfl (k:=1) (by kernel_rfl) (Dh_ Tryz.underlying5)
  have e:=(Bd_ q0 (Bd_ q1 (Bd_ q2 (Bd_ q3 (Bd_ q4 (Bd_ q5 (Gu_ (hcl.trans (by kernel_rfl)) q6)))))))
  rw[List.drop_zero] at e
  exact⟨(⟨z0,z1,z2,z3,z4,z5,z6⟩:Go.SW.Mail),e⟩
theorem rdv67:Rdv Tryz.prog 67 Go.SW.DeedR.pc 29:=fun Ht enc w base spare held fuel cs x h hw=>by
  obtain⟨xs,n,_,rfl,hcl,hxl,hf⟩:=DataW.trod_struct Tryz.underlying67 h
  obtain⟨z0,q0⟩:=Ao_ Tryz.underlying67 hf hxl hw (i:=0) rfl (o:=0) rfl (ft:=5) rfl (k:=1) (by kernel_rfl) (Dh_ Tryz.underlying5)
  obtain⟨z1,q1⟩:=Ao_ Tryz.underlying67 hf hxl hw (i:=1) rfl (o:=1) rfl (ft:=36) rfl (k:=1) (by kernel_rfl) (Dh_ Tryz.underlying36)
  obtain⟨z2,q2⟩:=Ao_ Tryz.underlying67 hf hxl hw (i:=2) rfl (o:=2) rfl (ft:=58) rfl (k:=3) (by kernel_rfl) rdv58
  obtain⟨z3,q3⟩:=Ao_ Tryz.underlying67 hf hxl hw (i:=3) rfl (o:=5) rfl (ft:=60) rfl (k:=4) (by kernel_rfl) rdv60
  obtain⟨z4,q4⟩:=Ao_ Tryz.underlying67 hf hxl hw (i:=4) rfl (o:=9) rfl (ft:=63) rfl (k:=6) (by kernel_rfl) rdv63
  obtain⟨z5,q5⟩:=Ao_ Tryz.underlying67 hf hxl hw (i:=5) rfl (o:=15) rfl (ft:=9) rfl (k:=1) (by kernel_rfl) (Fz_ Tryz.underlying9)
  obtain⟨z6,q6⟩:=Ao_ Tryz.underlying67 hf hxl hw (i:=6) rfl (o:=16) rfl (ft:=36) rfl (k:=1) (by kernel_rfl) (Dh_ Tryz.underlying36)
  obtain⟨z7,q7⟩:=Ao_ Tryz.underlying67 hf hxl hw (i:=7) rfl (o:=17) rfl (ft:=5) rfl (k:=1) (by kernel_rfl) (Dh_ Tryz.underlying5)
  obtain⟨z8,q8⟩:=Ao_ Tryz.underlying67 hf hxl hw (i:=8) rfl (o:=18) rfl (ft:=5) rfl (k:=1) (by kernel_rfl) (Dh_ Tryz.underlying5)
  obtain⟨z9,q9⟩:=Ao_ Tryz.underlying67 hf hxl hw (i:=9) rfl (o:=19) rfl (ft:=5) rfl (k:=1) (by kernel_rfl) (Dh_ Tryz.underlying5)
  obtain⟨z10,q10⟩:=Ao_ Tryz.underlying67 hf hxl hw (i:=10) rfl (o:=20) rfl (ft:=36) rfl (k:=1) (by kernel_rfl) (Dh_ Tryz.underlying36)
  obtain⟨z11,q11⟩:=Ao_ Tryz.underlying67 hf hxl hw (i:=11) rfl (o:=21) rfl (ft:=65) rfl (k:=7) (by kernel_rfl) rdv65
  obtain⟨z12,q12⟩:=Ao_ Tryz.underlying67 hf hxl hw (i:=12) rfl (o:=28) rfl (ft:=9) rfl (k:=1) (by kernel_rfl) (Fz_ Tryz.underlying9)
  have e:=(Bd_ q0 (Bd_ q1 (Bd_ q2 (Bd_ q3 (Bd_ q4 (Bd_ q5 (Bd_ q6 (Bd_ q7 (Bd_ q8 (Bd_ q9 (Bd_ q10 (Bd_ q11 (Gu_ (hcl.trans (by kernel_rfl)) q12)))))))))))))
  rw[List.drop_zero] at e
  exact⟨(⟨z0,z1,z2,z3,z4,z5,z6,z7,z8,z9,z10,z11,z12⟩:Go.SW.DeedR),e⟩
theorem rdvs27:Rdv Tryz.prog 27 (fun xs:List Go.SW.DeedR=>[Go.SW.PV.sl Go.SW.DeedR.pc xs]) 1:=Jz_ Tryz.underlying27 (k:=29) (by kernel_rfl) (by decide) (of_decide_eq_true (by kernel_rfl)) rdv67
theorem V4_ (H:Type) (enc:TypeId×Value→H) (W:World) (base:Nat) (args:Array Value) (ds gs:List (DataW H)) (before:List MemPlace)
    (hval0:∀ (j:Nat) t v,Tryz.f7.params[j]? = some t→args[j]? = some v→Value.okWide Tryz.prog W .any base t v)
    (hW:DataW.Whole enc Tryz.prog Tryz.f7.params.toList Rows.storeHopsSpec.vars false W args.toList ds gs before) (hWt:(DataW.weightsEach Tryz.prog (Tryz.f7.params.toList++(OpenSpec.ofChange Rows.storeHopsSpec).bare.plain.varTypes Tryz.prog) (ds++gs)).all (· ≤ reachBytes)=true) (hL:laidMetH Tryz.prog Rows.storeHopsRow.laid W) (hS:W.ShapedOpen Tryz.prog) :
    Calls Tryz.prog 7 args W fun e W'=>∃ v,e = .returned v∧Rows.storeHopsSpec.post enc Tryz.prog Tryz.f7 false true false false W args v W':=by
  have hL0:laidMet Tryz.prog Rows.storeHopsRow.laid W:=by
    rw[MakeChecks.laidMetH_plain _ _ _ (by kernel_rfl)] at hL
    exact hL
  have hW':=hW
  obtain⟨p,q,hA0,hV,rfl,hfz,hnd⟩:=hW
  have hA:DataW.TrodAll enc Tryz.prog W 0 (fun _=>true) true Tryz.f7.params.toList args.toList ds p:=hA0
  have hval:=hval0
  rw[Tryz.params7] at hA hval
  obtain⟨v0,vs0,d0,ds0,p0,q0,hargs,rfl,rfl,h0,r0⟩:=trodAll_cons hA
  obtain⟨v1,vs1,d1,ds1,p1,q1,rfl,rfl,rfl,h1,r1⟩:=trodAll_cons r0
  obtain⟨v2,vs2,d2,ds2,p2,q2,rfl,rfl,rfl,h2,r2⟩:=trodAll_cons r1
  obtain⟨rfl,rfl,rfl⟩:=trodAll_nil r2
  obtain rfl :args = #[v0,v1,v2]:=by cases args;simp_all
  obtain⟨rfl,rfl⟩:=trodVars_none hV
  obtain⟨p,s0⟩:=arg_rec Tryz.underlying26 (hval 0 26 v0 rfl rfl) h0 (wt_arg (j:=0) (t:=26) hWt (by kernel_rfl) rfl) rdv26
  obtain⟨place,s1⟩:=arg_int Tryz.underlying5 (hval 1 5 v1 rfl rfl) h1
  obtain⟨l,s2⟩:=arg_sl Tryz.underlying27 (hval 2 27 v2 rfl rfl) h2 (wt_arg (j:=2) (t:=27) hWt (by kernel_rfl) rfl) rdvs27
  clear hA0 hval0
  have hML:GInt (hp W) 0:=Q1_ (t:=3) (zero:=#[.int .i64 0]) hS (of_decide_eq_true (by kernel_rfl)) (by kernel_rfl) rfl (by kernel_rfl) (by kernel_rfl) Tryz.underlying3
  refine (law_run (vs:=[v0,v1,v2]) (Go.SW.V.l23_StoreHops_ok p place l) (show Go.SW.V.gb.p (hp W) from hML) (Sims.cons s0 (Sims.cons s1 (Sims.cons s2 Sims.nil))) (Go.SW.V.law23_hops _ _ _ (Go.SW.V.hops_deeds s2.wf))).mono fun e W' ⟨he,hm⟩=>?_
  subst he
  exact⟨_,rfl,law_post (s:=Rows.storeHopsSpec) rfl hW' (X2_ hm) laidOut (params_ok (ts:=Tryz.f7.params) (by kernel_rfl)) (tb:=4) rfl Tryz.underlying4 rfl⟩
/-- A world for the witness: the settled one, the listed variables holding what their initialisers lay. -/
theorem laid_met (os:Os):laidMet Tryz.prog Rows.storeHopsRow.laid ((laidWE Tryz.prog os 494 496 [(6,Rows.laid_math_bits_deBruijn32tab),(7,Rows.laid_math_bits_deBruijn64tab),(5,Rows.laid_internal_strconv_uint64pow10),(2,Rows.laid_unicode_utf8_acceptRanges),(1,Rows.laid_unicode_utf8_first)] [(4,Rows.laid_strconv_ErrRange),(3,Rows.laid_strconv_ErrSyntax)]).forCall (fun _ _=>0) ⟨#[],#[.agg #[.int .i64 0, .int .i64 0, .slice none 0 0, .slice none 0 0, .slice none 0 0], .int .u8 0, .slice none 0 0],[]⟩).memory:=
  laidMet_of_run' 8 (by kernel_rfl) (by kernel_rfl)
theorem reads (os:Os) {H:Type} (enc:TypeId×Value→H):∃ places,DataW.whole enc Tryz.prog ((laidWE Tryz.prog os 494 496 [(6,Rows.laid_math_bits_deBruijn32tab),(7,Rows.laid_math_bits_deBruijn64tab),(5,Rows.laid_internal_strconv_uint64pow10),(2,Rows.laid_unicode_utf8_acceptRanges),(1,Rows.laid_unicode_utf8_first)] [(4,Rows.laid_strconv_ErrRange),(3,Rows.laid_strconv_ErrSyntax)]).forCall (fun _ _=>0) ⟨#[],#[.agg #[.int .i64 0, .int .i64 0, .slice none 0 0, .slice none 0 0, .slice none 0 0], .int .u8 0, .slice none 0 0],[]⟩).memory Tryz.f7.params.toList Rows.storeHopsSpec.vars false (#[.agg #[.int .i64 0, .int .i64 0, .slice none 0 0, .slice none 0 0, .slice none 0 0], .int .u8 0, .slice none 0 0]:Array Value).toList 8=some ([.agg [.lit (.int .i64 0), .lit (.int .i64 0), .nil, .nil, .nil], .lit (.int .u8 0), .nil],[],places):=
  ⟨[],by kernel_rfl⟩
theorem lifted (os:Os) (started:os.Started) (H:Type) (enc:TypeId×Value→H) (F:Stop.Interp) :
    ReturnsInHanded {} Tryz.checked os 7 .any ((OpenSpec.ofChange Rows.storeHopsSpec).preRow enc Tryz.prog Tryz.f7 Rows.storeHopsRow.domain false Rows.storeHopsRow.laid) (((OpenSpec.ofChange Rows.storeHopsSpec).at F).post enc Tryz.prog Tryz.f7 false true false false):=by
  obtain⟨places,hx⟩:=reads os enc
  refine returnsInHanded_of_row (C:=Tryz.checked) (s:=OpenSpec.ofChange Rows.storeHopsSpec) own started (by kernel_rfl) Tryz.func7
    (witness_row_at (enc:=enc) (C:=Tryz.checked) false (laidWE Tryz.prog os 494 496 [(6,Rows.laid_math_bits_deBruijn32tab),(7,Rows.laid_math_bits_deBruijn64tab),(5,Rows.laid_internal_strconv_uint64pow10),(2,Rows.laid_unicode_utf8_acceptRanges),(1,Rows.laid_unicode_utf8_first)] [(4,Rows.laid_strconv_ErrRange),(3,Rows.laid_strconv_ErrSyntax)]) #[.agg #[.int .i64 0, .int .i64 0, .slice none 0 0, .slice none 0 0, .slice none 0 0], .int .u8 0, .slice none 0 0] rfl (by kernel_rfl) (by kernel_rfl) (by kernel_rfl)
      (OpenSpec.preRow_of_cond 8 hx (by kernel_rfl) (fun k hk=>by cases hk) (by kernel_rfl) (laid_met os))) ?_
  intro W base args ds gs before hval hW _ _ hWt hL hS _
  exact V4_ H enc W base args ds gs before hval hW hWt hL hS
theorem closed:joinedFacts Tryz.pinned.checked.prog 7 Tryz.f7 (OpenSpec.ofChange Rows.storeHopsSpec).bare Rows.storeHopsRow=true:=by
  unfold joinedFacts
  simp only[Bool.and_eq_true]
  repeat' (refine And.intro ?_ ?_)
  all_goals (as_aux_lemma=>kernel_rfl)
theorem said:Rows.StoreHopsSaid:=
  OpenClaim.holds_of_cond 7 Tryz.f7 rfl rfl rfl rfl rfl rfl rfl ⟨rfl,rfl,rfl,rfl,rfl⟩ rfl rfl rfl rfl rfl (by as_aux_lemma=>kernel_rfl) Tryz.func7 closed
    (of_decide_eq_true (by as_aux_lemma=>kernel_rfl)) (by unfold Func.isWrapper;first|(rw[if_pos (by decide +kernel)];kernel_rfl)|(rw[if_neg (by decide +kernel)];exact⟨rfl,rfl⟩))
    (fun os started H enc _ F=>by rw[OpenClaim.pre_eq_preRow];exact lifted os started H enc F)
theorem plain (f:FuncId) (fn:Func) (hf:Tryz.pinned.checked.prog.funcNamed "stairwell/stairwelllaw23.StoreHops" = some f) (hfn:Tryz.pinned.checked.prog.funcs[f]? = some fn) :
    true=Tryz.pinned.checked.prog.looks []∧∀ (j:Nat) t,fn.params[j]? = some t→Tryz.pinned.checked.prog.wantsStandIn t=false:=by
  obtain rfl :f=7:=Option.some.inj ((show Tryz.prog.funcNamed "stairwell/stairwelllaw23.StoreHops" = some 7 by kernel_rfl).symm.trans hf) |>.symm
  obtain rfl :fn=Tryz.f7:=(Option.some.inj (Tryz.func7.symm.trans hfn)).symm
  refine⟨by as_aux_lemma=>kernel_rfl,fun j t ht=>?_⟩
  rw[Tryz.params7] at ht
  have hm:t∈[26,5,27]:=by simpa using Array.mem_of_getElem? ht
  have hall:([26,5,27].all fun u=>!Tryz.prog.wantsStandIn u)=true:=by kernel_rfl
  exact (show Tryz.prog.wantsStandIn t=false by simpa using List.all_eq_true.1 hall t hm)
theorem card:Rows.StoreHopsCardSaid:=
  Claim7.holds_tied_plain_at .later [] _ _ _ _ said (fun _ h=>by cases h) (by as_aux_lemma=>kernel_rfl) (fun _ h=>by cases h) storeHops_row_tie rfl ⟨rfl,rfl⟩ (by as_aux_lemma=>kernel_rfl) rfl plain (by as_aux_lemma=>kernel_rfl)
#print axioms card
end Go.Proofs.YtkngbefdgkfjmaaGreatDoor.storeHops
