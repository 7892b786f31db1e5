/-
  VaultAgain: for every input the law returns true, and its arguments read as they did; the card, its listed variables tied to the program's text.
  Conditions: the listed package-level variables hold what the program's own text lays in them.
-/
import Derived.Test.YtfojlhfchpkhlaaGreatDoorVaultAgainP20
set_option maxRecDepth 100000
set_option maxHeartbeats 4000000
namespace Go.Proofs.YtfojlhfchpkhlaaGreatDoor.vaultAgain
open Go.ChangeShapes Go.WideShapes Go.ChangeAt Go.RowKit Go.SW Go.Proofs
theorem rdv92:Rdv Tryz.prog 92 Go.SW.Dc_.pc 2:=λHt enc w base spare held fuel cs x h hw=>by
 obtain⟨xs,n,_,rfl,hcl,hxl,hf⟩:=DataW.trod_struct Tryz.underlying92 h
 have⟨z0,q0⟩:=Cs_ Tryz.underlying92 hf hxl hw (i:=0) rfl (o:=0) rfl (ft:=5) rfl (k:=1) (by kernel_rfl) (G6_ Tryz.underlying5)
 have⟨z1,q1⟩:=Cs_ Tryz.underlying92 hf hxl hw (i:=1) rfl (o:=1) rfl (ft:=90) rfl (k:=1) (by kernel_rfl) (G6_ Tryz.underlying90)
 have e:=(D2_ q0 (Lo_ (hcl.trans (by kernel_rfl)) q1))
 rw[List.drop_zero] at e
 exact⟨(⟨z0,z1⟩:Go.SW.Dc_),e⟩
theorem rdv94:Rdv Tryz.prog 94 Go.SW.A8_.pc 5:=λHt enc w base spare held fuel cs x h hw=>by
 obtain⟨xs,n,_,rfl,hcl,hxl,hf⟩:=DataW.trod_struct Tryz.underlying94 h
 have⟨z0,q0⟩:=Cs_ Tryz.underlying94 hf hxl hw (i:=0) rfl (o:=0) rfl (ft:=9) rfl (k:=1) (by kernel_rfl) (Kd_ Tryz.underlying9)
 have⟨z1,q1⟩:=Cs_ Tryz.underlying94 hf hxl hw (i:=1) rfl (o:=1) rfl (ft:=92) rfl (k:=2) (by kernel_rfl) rdv92
 have⟨z2,q2⟩:=Cs_ Tryz.underlying94 hf hxl hw (i:=2) rfl (o:=3) rfl (ft:=3) rfl (k:=1) (by kernel_rfl) (G6_ Tryz.underlying3)
 have⟨z3,q3⟩:=Cs_ Tryz.underlying94 hf hxl hw (i:=3) rfl (o:=4) rfl (ft:=38) rfl (k:=1) (by kernel_rfl) (G6_ Tryz.underlying38)
 have e:=(D2_ q0 (D2_ q1 (D2_ q2 (Lo_ (hcl.trans (by kernel_rfl)) q3))))
 rw[List.drop_zero] at e
 exact⟨(⟨z0,z1,z2,z3⟩:Go.SW.A8_),e⟩
theorem rdvs22:Rdv Tryz.prog 22 (λxs:List Go.SW.A8_=>[Go.SW.PV.sl Go.SW.A8_.pc xs]) 1:=Qd_ Tryz.underlying22 (k:=5) (by kernel_rfl) (by decide) (of_decide_eq_true (by kernel_rfl)) rdv94
theorem rdvs23:Rdv Tryz.prog 23 (λxs:List Int=>[Go.SW.PV.sl i64c xs]) 1:=Qd_ Tryz.underlying23 (k:=1) (by kernel_rfl) (by decide) (of_decide_eq_true (by kernel_rfl)) (G6_ Tryz.underlying3)
theorem rdv124:Rdv Tryz.prog 124 Go.SW.B9_.pc 3:=λHt enc w base spare held fuel cs x h hw=>by
 obtain⟨xs,n,_,rfl,hcl,hxl,hf⟩:=DataW.trod_struct Tryz.underlying124 h
 have⟨z0,q0⟩:=Cs_ Tryz.underlying124 hf hxl hw (i:=0) rfl (o:=0) rfl (ft:=3) rfl (k:=1) (by kernel_rfl) (G6_ Tryz.underlying3)
 have⟨z1,q1⟩:=Cs_ Tryz.underlying124 hf hxl hw (i:=1) rfl (o:=1) rfl (ft:=3) rfl (k:=1) (by kernel_rfl) (G6_ Tryz.underlying3)
 have⟨z2,q2⟩:=Cs_ Tryz.underlying124 hf hxl hw (i:=2) rfl (o:=2) rfl (ft:=3) rfl (k:=1) (by kernel_rfl) (G6_ Tryz.underlying3)
 have e:=(D2_ q0 (D2_ q1 (Lo_ (hcl.trans (by kernel_rfl)) q2)))
 rw[List.drop_zero] at e
 exact⟨(⟨z0,z1,z2⟩:Go.SW.B9_),e⟩
theorem rdvs24:Rdv Tryz.prog 24 (λxs:List Go.SW.B9_=>[Go.SW.PV.sl Go.SW.B9_.pc xs]) 1:=Qd_ Tryz.underlying24 (k:=3) (by kernel_rfl) (by decide) (of_decide_eq_true (by kernel_rfl)) rdv124
theorem rdv26:Rdv Tryz.prog 26 Go.SW.F_.pc 5:=λHt enc w base spare held fuel cs x h hw=>by
 obtain⟨xs,n,_,rfl,hcl,hxl,hf⟩:=DataW.trod_struct Tryz.underlying26 h
 have⟨z0,q0⟩:=Cs_ Tryz.underlying26 hf hxl hw (i:=0) rfl (o:=0) rfl (ft:=3) rfl (k:=1) (by kernel_rfl) (G6_ Tryz.underlying3)
 have⟨z1,q1⟩:=Cs_ Tryz.underlying26 hf hxl hw (i:=1) rfl (o:=1) rfl (ft:=3) rfl (k:=1) (by kernel_rfl) (G6_ Tryz.underlying3)
 have⟨z2,q2⟩:=Cs_ Tryz.underlying26 hf hxl hw (i:=2) rfl (o:=2) rfl (ft:=22) rfl (k:=1) (by kernel_rfl) rdvs22
 have⟨z3,q3⟩:=Cs_ Tryz.underlying26 hf hxl hw (i:=3) rfl (o:=3) rfl (ft:=23) rfl (k:=1) (by kernel_rfl) rdvs23
 have⟨z4,q4⟩:=Cs_ Tryz.underlying26 hf hxl hw (i:=4) rfl (o:=4) rfl (ft:=24) rfl (k:=1) (by kernel_rfl) rdvs24
 have e:=(D2_ q0 (D2_ q1 (D2_ q2 (D2_ q3 (Lo_ (hcl.trans (by kernel_rfl)) q4)))))
 rw[List.drop_zero] at e
 exact⟨(⟨z0,z1,z2,z3,z4⟩:Go.SW.F_),e⟩
theorem rdv40:Rdv Tryz.prog 40 Go.SW.W_.pc 3:=λHt enc w base spare held fuel cs x h hw=>by
 obtain⟨xs,n,_,rfl,hcl,hxl,hf⟩:=DataW.trod_struct Tryz.underlying40 h
 have⟨z0,q0⟩:=Cs_ Tryz.underlying40 hf hxl hw (i:=0) rfl (o:=0) rfl (ft:=9) rfl (k:=1) (by kernel_rfl) (Kd_ Tryz.underlying9)
 have⟨z1,q1⟩:=Cs_ Tryz.underlying40 hf hxl hw (i:=1) rfl (o:=1) rfl (ft:=5) rfl (k:=1) (by kernel_rfl) (G6_ Tryz.underlying5)
 have⟨z2,q2⟩:=Cs_ Tryz.underlying40 hf hxl hw (i:=2) rfl (o:=2) rfl (ft:=9) rfl (k:=1) (by kernel_rfl) (Kd_ Tryz.underlying9)
 have e:=(D2_ q0 (D2_ q1 (Lo_ (hcl.trans (by kernel_rfl)) q2)))
 rw[List.drop_zero] at e
 exact⟨(⟨z0,z1,z2⟩:Go.SW.W_),e⟩
theorem rdv42:Rdv Tryz.prog 42 Go.SW.M_.pc 4:=λHt enc w base spare held fuel cs x h hw=>by
 obtain⟨xs,n,_,rfl,hcl,hxl,hf⟩:=DataW.trod_struct Tryz.underlying42 h
 have⟨z0,q0⟩:=Cs_ Tryz.underlying42 hf hxl hw (i:=0) rfl (o:=0) rfl (ft:=9) rfl (k:=1) (by kernel_rfl) (Kd_ Tryz.underlying9)
 have⟨z1,q1⟩:=Cs_ Tryz.underlying42 hf hxl hw (i:=1) rfl (o:=1) rfl (ft:=38) rfl (k:=1) (by kernel_rfl) (G6_ Tryz.underlying38)
 have⟨z2,q2⟩:=Cs_ Tryz.underlying42 hf hxl hw (i:=2) rfl (o:=2) rfl (ft:=38) rfl (k:=1) (by kernel_rfl) (G6_ Tryz.underlying38)
 have⟨z3,q3⟩:=Cs_ Tryz.underlying42 hf hxl hw (i:=3) rfl (o:=3) rfl (ft:=9) rfl (k:=1) (by kernel_rfl) (Kd_ Tryz.underlying9)
 have e:=(D2_ q0 (D2_ q1 (D2_ q2 (Lo_ (hcl.trans (by kernel_rfl)) q3))))
 rw[List.drop_zero] at e
 exact⟨(⟨z0,z1,z2,z3⟩:Go.SW.M_),e⟩
theorem rdv232:Rdv Tryz.prog 232 Go.SW.Pair.pc 4:=λHt enc w base spare held fuel cs x h hw=>by
 obtain⟨xs,n,_,rfl,hcl,hxl,hf⟩:=DataW.trod_struct Tryz.underlying232 h
 have⟨z0,q0⟩:=Cs_ Tryz.underlying232 hf hxl hw (i:=0) rfl (o:=0) rfl (ft:=9) rfl (k:=1) (by kernel_rfl) (Kd_ Tryz.underlying9)
 have⟨z1,q1⟩:=Cs_ Tryz.underlying232 hf hxl hw (i:=1) rfl (o:=1) rfl (ft:=5) rfl (k:=1) (by kernel_rfl) (G6_ Tryz.underlying5)
 have⟨z2,q2⟩:=Cs_ Tryz.underlying232 hf hxl hw (i:=2) rfl (o:=2) rfl (ft:=2) rfl (k:=1) (by kernel_rfl) (G6_ Tryz.underlying2)
 have⟨z3,q3⟩:=Cs_ Tryz.underlying232 hf hxl hw (i:=3) rfl (o:=3) rfl (ft:=9) rfl (k:=1) (by kernel_rfl) (Kd_ Tryz.underlying9)
 have e:=(D2_ q0 (D2_ q1 (D2_ q2 (Lo_ (hcl.trans (by kernel_rfl)) q3))))
 rw[List.drop_zero] at e
 exact⟨(⟨z0,z1,z2,z3⟩:Go.SW.Pair),e⟩
theorem rdvs43:Rdv Tryz.prog 43 (λxs:List Go.SW.Pair=>[Go.SW.PV.sl Go.SW.Pair.pc xs]) 1:=Qd_ Tryz.underlying43 (k:=4) (by kernel_rfl) (by decide) (of_decide_eq_true (by kernel_rfl)) rdv232
theorem rdv45:Rdv Tryz.prog 45 Go.SW.Q_.pc 6:=λHt enc w base spare held fuel cs x h hw=>by
 obtain⟨xs,n,_,rfl,hcl,hxl,hf⟩:=DataW.trod_struct Tryz.underlying45 h
 have⟨z0,q0⟩:=Cs_ Tryz.underlying45 hf hxl hw (i:=0) rfl (o:=0) rfl (ft:=9) rfl (k:=1) (by kernel_rfl) (Kd_ Tryz.underlying9)
 have⟨z1,q1⟩:=Cs_ Tryz.underlying45 hf hxl hw (i:=1) rfl (o:=1) rfl (ft:=9) rfl (k:=1) (by kernel_rfl) (Kd_ Tryz.underlying9)
 have⟨z2,q2⟩:=Cs_ Tryz.underlying45 hf hxl hw (i:=2) rfl (o:=2) rfl (ft:=4) rfl (k:=1) (by kernel_rfl) (rdv_bool Tryz.underlying4)
 have⟨z3,q3⟩:=Cs_ Tryz.underlying45 hf hxl hw (i:=3) rfl (o:=3) rfl (ft:=9) rfl (k:=1) (by kernel_rfl) (Kd_ Tryz.underlying9)
 have⟨z4,q4⟩:=Cs_ Tryz.underlying45 hf hxl hw (i:=4) rfl (o:=4) rfl (ft:=43) rfl (k:=1) (by kernel_rfl) rdvs43
 have⟨z5,q5⟩:=Cs_ Tryz.underlying45 hf hxl hw (i:=5) rfl (o:=5) rfl (ft:=4) rfl (k:=1) (by kernel_rfl) (rdv_bool Tryz.underlying4)
 have e:=(D2_ q0 (D2_ q1 (D2_ q2 (D2_ q3 (D2_ q4 (Lo_ (hcl.trans (by kernel_rfl)) q5))))))
 rw[List.drop_zero] at e
 exact⟨(⟨z0,z1,z2,z3,z4,z5⟩:Go.SW.Q_),e⟩
theorem rdv47:Rdv Tryz.prog 47 Go.SW.Mail.pc 7:=λHt enc w base spare held fuel cs x h hw=>by
 obtain⟨xs,n,_,rfl,hcl,hxl,hf⟩:=DataW.trod_struct Tryz.underlying47 h
 have⟨z0,q0⟩:=Cs_ Tryz.underlying47 hf hxl hw (i:=0) rfl (o:=0) rfl (ft:=38) rfl (k:=1) (by kernel_rfl) (G6_ Tryz.underlying38)
 have⟨z1,q1⟩:=Cs_ Tryz.underlying47 hf hxl hw (i:=1) rfl (o:=1) rfl (ft:=9) rfl (k:=1) (by kernel_rfl) (Kd_ Tryz.underlying9)
 have⟨z2,q2⟩:=Cs_ Tryz.underlying47 hf hxl hw (i:=2) rfl (o:=2) rfl (ft:=9) rfl (k:=1) (by kernel_rfl) (Kd_ Tryz.underlying9)
 have⟨z3,q3⟩:=Cs_ Tryz.underlying47 hf hxl hw (i:=3) rfl (o:=3) rfl (ft:=43) rfl (k:=1) (by kernel_rfl) rdvs43
 have⟨z4,q4⟩:=Cs_ Tryz.underlying47 hf hxl hw (i:=4) rfl (o:=4) rfl (ft:=9) rfl (k:=1) (by kernel_rfl) (Kd_ Tryz.underlying9)
 have⟨z5,q5⟩:=Cs_ Tryz.underlying47 hf hxl hw (i:=5) rfl (o:=5) rfl (ft:=38) rfl (k:=1) (by kernel_rfl) (G6_ Tryz.underlying38)
 have⟨z6,q6⟩:=Cs_ Tryz.underlying47 hf hxl hw (i:=6) rfl (o:=6) rfl (ft:=5) rfl (k:=1) (by kernel_rfl) (G6_ Tryz.underlying5)
 have e:=(D2_ q0 (D2_ q1 (D2_ q2 (D2_ q3 (D2_ q4 (D2_ q5 (Lo_ (hcl.trans (by kernel_rfl)) q6)))))))
 rw[List.drop_zero] at e
 exact⟨(⟨z0,z1,z2,z3,z4,z5,z6⟩:Go.SW.Mail),e⟩
theorem rdv49:Rdv Tryz.prog 49 Go.SW.G_.pc 29:=λHt enc w base spare held fuel cs x h hw=>by
 obtain⟨xs,n,_,rfl,hcl,hxl,hf⟩:=DataW.trod_struct Tryz.underlying49 h
 have⟨z0,q0⟩:=Cs_ Tryz.underlying49 hf hxl hw (i:=0) rfl (o:=0) rfl (ft:=5) rfl (k:=1) (by kernel_rfl) (G6_ Tryz.underlying5)
 have⟨z1,q1⟩:=Cs_ Tryz.underlying49 hf hxl hw (i:=1) rfl (o:=1) rfl (ft:=38) rfl (k:=1) (by kernel_rfl) (G6_ Tryz.underlying38)
 have⟨z2,q2⟩:=Cs_ Tryz.underlying49 hf hxl hw (i:=2) rfl (o:=2) rfl (ft:=40) rfl (k:=3) (by kernel_rfl) rdv40
 have⟨z3,q3⟩:=Cs_ Tryz.underlying49 hf hxl hw (i:=3) rfl (o:=5) rfl (ft:=42) rfl (k:=4) (by kernel_rfl) rdv42
 have⟨z4,q4⟩:=Cs_ Tryz.underlying49 hf hxl hw (i:=4) rfl (o:=9) rfl (ft:=45) rfl (k:=6) (by kernel_rfl) rdv45
 have⟨z5,q5⟩:=Cs_ Tryz.underlying49 hf hxl hw (i:=5) rfl (o:=15) rfl (ft:=9) rfl (k:=1) (by kernel_rfl) (Kd_ Tryz.underlying9)
 have⟨z6,q6⟩:=Cs_ Tryz.underlying49 hf hxl hw (i:=6) rfl (o:=16) rfl (ft:=38) rfl (k:=1) (by kernel_rfl) (G6_ Tryz.underlying38)
 have⟨z7,q7⟩:=Cs_ Tryz.underlying49 hf hxl hw (i:=7) rfl (o:=17) rfl (ft:=5) rfl (k:=1) (by kernel_rfl) (G6_ Tryz.underlying5)
 have⟨z8,q8⟩:=Cs_ Tryz.underlying49 hf hxl hw (i:=8) rfl (o:=18) rfl (ft:=5) rfl (k:=1) (by kernel_rfl) (G6_ Tryz.underlying5)
 have⟨z9,q9⟩:=Cs_ Tryz.underlying49 hf hxl hw (i:=9) rfl (o:=19) rfl (ft:=5) rfl (k:=1) (by kernel_rfl) (G6_ Tryz.underlying5)
 have⟨z10,q10⟩:=Cs_ Tryz.underlying49 hf hxl hw (i:=10) rfl (o:=20) rfl (ft:=38) rfl (k:=1) (by kernel_rfl) (G6_ Tryz.underlying38)
 have⟨z11,q11⟩:=Cs_ Tryz.underlying49 hf hxl hw (i:=11) rfl (o:=21) rfl (ft:=47) rfl (k:=7) (by kernel_rfl) rdv47
 have⟨z12,q12⟩:=Cs_ Tryz.underlying49 hf hxl hw (i:=12) rfl (o:=28) rfl (ft:=9) rfl (k:=1) (by kernel_rfl) (Kd_ Tryz.underlying9)
 have e:=(D2_ q0 (D2_ q1 (D2_ q2 (D2_ q3 (D2_ q4 (D2_ q5 (D2_ q6 (D2_ q7 (D2_ q8 (D2_ q9 (D2_ q10 (D2_ q11 (Lo_ (hcl.trans (by kernel_rfl)) q12)))))))))))))
 rw[List.drop_zero] at e
 exact⟨(⟨z0,z1,z2,z3,z4,z5,z6,z7,z8,z9,z10,z11,z12⟩:Go.SW.G_),e⟩
theorem rdvs27:Rdv Tryz.prog 27 (λxs:List Go.SW.G_=>[Go.SW.PV.sl Go.SW.G_.pc xs]) 1:=Qd_ Tryz.underlying27 (k:=29) (by kernel_rfl) (by decide) (of_decide_eq_true (by kernel_rfl)) rdv49
theorem St_ (H:Type) (enc:TypeId×Value→H) (W:World) (base:Nat) (args:Array Value) (ds gs:List (DataW H)) (before:List MemPlace)
   (hval0:∀ (j:Nat) t v,Tryz.f4.params[j]? = some t→args[j]? = some v→Value.okWide Tryz.prog W .any base t v)
   (hW:DataW.Whole enc Tryz.prog Tryz.f4.params.toList Rows.vaultAgainSpec.vars false W args.toList ds gs before) (hWt:(DataW.weightsEach Tryz.prog (Tryz.f4.params.toList++(OpenSpec.ofChange Rows.vaultAgainSpec).bare.plain.varTypes Tryz.prog) (ds++gs)).all (· ≤ reachBytes)=true) (hL:laidMetH Tryz.prog Rows.vaultAgainRow.laid W) (hS:W.ShapedOpen Tryz.prog) :
   Calls Tryz.prog 4 args W λe W'=>∃ v,e = .returned v∧Rows.vaultAgainSpec.post enc Tryz.prog Tryz.f4 false true false false W args v W':=by
 have hL0:laidMet Tryz.prog Rows.vaultAgainRow.laid W:=by
   rw[MakeChecks.laidMetH_plain _ _ _ (by kernel_rfl)] at hL
   exact hL
 have hW':=hW
 obtain⟨p,q,hA0,hV,rfl,hfz,hnd⟩:=hW
 have hA:DataW.TrodAll enc Tryz.prog W 0 (λ_=>true) true Tryz.f4.params.toList args.toList ds p:=hA0
 have hval:=hval0
 rw[Tryz.params4] at hA hval
 obtain⟨v0,vs0,d0,ds0,p0,q0,hargs,rfl,rfl,h0,r0⟩:=trodAll_cons hA
 obtain⟨v1,vs1,d1,ds1,p1,q1,rfl,rfl,rfl,h1,r1⟩:=trodAll_cons r0
 obtain⟨v2,vs2,d2,ds2,p2,q2,rfl,rfl,rfl,h2,r2⟩:=trodAll_cons r1
 obtain⟨v3,vs3,d3,ds3,p3,q3,rfl,rfl,rfl,h3,r3⟩:=trodAll_cons r2
 obtain⟨v4,vs4,d4,ds4,p4,q4,rfl,rfl,rfl,h4,r4⟩:=trodAll_cons r3
 obtain⟨rfl,rfl,rfl⟩:=trodAll_nil r4
 obtain rfl :args = #[v0,v1,v2,v3,v4]:=by cases args;simp_all
 obtain⟨rfl,rfl⟩:=trodVars_none hV
 have⟨p,s0⟩:=arg_rec Tryz.underlying26 (hval 0 26 v0 rfl rfl) h0 (wt_arg (j:=0) (t:=26) hWt (by kernel_rfl) rfl) rdv26
 have⟨place,s1⟩:=arg_int Tryz.underlying5 (hval 1 5 v1 rfl rfl) h1
 have⟨l,s2⟩:=arg_sl Tryz.underlying27 (hval 2 27 v2 rfl rfl) h2 (wt_arg (j:=2) (t:=27) hWt (by kernel_rfl) rfl) rdvs27
 have⟨tick,s3⟩:=arg_int Tryz.underlying38 (hval 3 38 v3 rfl rfl) h3
 have⟨cut,s4⟩:=arg_int Tryz.underlying3 (hval 4 3 v4 rfl rfl) h4
 clear hA0 hval0
 have hML:GInt (hp W) 1:=gint_of_shape (t:=3) (zero:=#[.int .i64 0]) hS (of_decide_eq_true (by kernel_rfl)) (by kernel_rfl) rfl (by kernel_rfl) (by kernel_rfl) Tryz.underlying3
 have hCrc:GTab (hp W) 0 laidT:=gtab_of (g:=0) (n:=16) (by kernel_rfl) (by kernel_rfl) Tryz.underlying360 Tryz.underlying90 (by kernel_rfl) (by kernel_rfl) (laidMet.tail (laidMet.tail (laidMet.tail hL0)))
 have hPow:GPow (hp W) 6:=gtab_of (g:=6) (n:=20) (by kernel_rfl) (by kernel_rfl) Tryz.underlying438 Tryz.underlying38 (by kernel_rfl) (by kernel_rfl) (laidMet.tail (laidMet.tail hL0))
 refine (law_run (vs:=[v0,v1,v2,v3,v4]) (Go.SW.V.l25_VaultAgain_ok p place l tick cut) (show Go.SW.V.gb.p (hp W) from ⟨hML,hCrc,hPow⟩) (Sims.cons s0 (Sims.cons s1 (Sims.cons s2 (Sims.cons s3 (Sims.cons s4 Sims.nil))))) (Go.SW.V.law25_again s0.wf s2.wf s3.wf)).mono λe W' ⟨he,hm⟩=>?_
 subst he
 exact⟨_,rfl,law_post (s:=Rows.vaultAgainSpec) rfl hW' (mem0_below hm) laidOut (params_ok (ts:=Tryz.f4.params) (by kernel_rfl)) (tb:=4) rfl Tryz.underlying4 rfl⟩
theorem reads (os:Os) {H:Type} (enc:TypeId×Value→H):∃ places,DataW.whole enc Tryz.prog ((laidWE Tryz.prog os 429 431 [(7,Rows.laid_math_bits_deBruijn32tab),(8,Rows.laid_math_bits_deBruijn64tab),(6,Rows.laid_internal_strconv_uint64pow10),(0,Rows.laid_stairwell_crc_laid),(3,Rows.laid_unicode_utf8_acceptRanges),(2,Rows.laid_unicode_utf8_first)] [(5,Rows.laid_strconv_ErrRange),(4,Rows.laid_strconv_ErrSyntax)]).forCall (λ_ _=>0) ⟨#[],#[.agg #[.int .i64 0, .int .i64 0, .slice none 0 0, .slice none 0 0, .slice none 0 0], .int .u8 0, .slice none 0 0, .int .u64 0, .int .i64 0],[]⟩).memory Tryz.f4.params.toList Rows.vaultAgainSpec.vars false (#[.agg #[.int .i64 0, .int .i64 0, .slice none 0 0, .slice none 0 0, .slice none 0 0], .int .u8 0, .slice none 0 0, .int .u64 0, .int .i64 0]:Array Value).toList 8=some ([.agg [.lit (.int .i64 0), .lit (.int .i64 0), .nil, .nil, .nil], .lit (.int .u8 0), .nil, .lit (.int .u64 0), .lit (.int .i64 0)],[],places):=
 ⟨[],by kernel_rfl⟩
theorem lifted (os:Os) (started:os.Started) (H:Type) (enc:TypeId×Value→H) (F:Stop.Interp) :
   ReturnsInHanded {} Tryz.checked os 4 .any ((OpenSpec.ofChange Rows.vaultAgainSpec).preRow enc Tryz.prog Tryz.f4 Rows.vaultAgainRow.domain false Rows.vaultAgainRow.laid) (((OpenSpec.ofChange Rows.vaultAgainSpec).at F).post enc Tryz.prog Tryz.f4 false true false false):=by
 have⟨places,hx⟩:=reads os enc
 refine returnsInHanded_of_row (C:=Tryz.checked) (s:=OpenSpec.ofChange Rows.vaultAgainSpec) own started (by kernel_rfl) Tryz.func4
   (witness_row_at (enc:=enc) (C:=Tryz.checked) false (laidWE Tryz.prog os 429 431 [(7,Rows.laid_math_bits_deBruijn32tab),(8,Rows.laid_math_bits_deBruijn64tab),(6,Rows.laid_internal_strconv_uint64pow10),(0,Rows.laid_stairwell_crc_laid),(3,Rows.laid_unicode_utf8_acceptRanges),(2,Rows.laid_unicode_utf8_first)] [(5,Rows.laid_strconv_ErrRange),(4,Rows.laid_strconv_ErrSyntax)]) #[.agg #[.int .i64 0, .int .i64 0, .slice none 0 0, .slice none 0 0, .slice none 0 0], .int .u8 0, .slice none 0 0, .int .u64 0, .int .i64 0] rfl (by kernel_rfl) (by kernel_rfl) (by kernel_rfl)
     (OpenSpec.preRow_of_cond 8 hx (by kernel_rfl) (λk hk=>by cases hk) (by kernel_rfl) (laid_met os))) ?_
 intro W base args ds gs before hval hW _ _ hWt hL hS _
 exact St_ H enc W base args ds gs before hval hW hWt hL hS
theorem said:Rows.VaultAgainSaid:=
 OpenClaim.holds_of_cond 4 Tryz.f4 rfl rfl rfl rfl rfl rfl rfl ⟨rfl,rfl,rfl,rfl,rfl⟩ rfl rfl rfl rfl rfl fnm Tryz.func4 closed
   (of_decide_eq_true (by as_aux_lemma=>kernel_rfl)) (by unfold Func.isWrapper;first|(rw[if_pos (by decide +kernel)];kernel_rfl)|(rw[if_neg (by decide +kernel)];exact⟨rfl,rfl⟩))
   (λos started H enc _ F=>by rw[OpenClaim.pre_eq_preRow];exact lifted os started H enc F)
theorem plain (f:FuncId) (fn:Func) (hf:Tryz.pinned.checked.prog.funcNamed "stairwell/stairwelllaw25.VaultAgain" = some f) (hfn:Tryz.pinned.checked.prog.funcs[f]? = some fn) :
   true=Tryz.pinned.checked.prog.looks []∧∀ (j:Nat) t,fn.params[j]? = some t→Tryz.pinned.checked.prog.wantsStandIn t=false:=by
 obtain rfl :f=4:=Option.some.inj ((show Tryz.prog.funcNamed "stairwell/stairwelllaw25.VaultAgain" = some 4 from fnm).symm.trans hf) |>.symm
 obtain rfl :fn=Tryz.f4:=(Option.some.inj (Tryz.func4.symm.trans hfn)).symm
 refine⟨by as_aux_lemma=>kernel_rfl,λj t ht=>?_⟩
 rw[Tryz.params4] at ht
 have hm:t∈[26,5,27,38,3]:=by simpa using Array.mem_of_getElem? ht
 have hall:([26,5,27,38,3].all λu=>!Tryz.prog.wantsStandIn u)=true:=by kernel_rfl
 exact (show Tryz.prog.wantsStandIn t=false by simpa using List.all_eq_true.1 hall t hm)
theorem card:Rows.VaultAgainCardSaid:=
 Claim7.holds_tied_plain_at .later [] _ _ _ _ said (λ_ h=>by cases h) (by as_aux_lemma=>kernel_rfl) (λ_ h=>by cases h) vaultAgain_row_tie rfl ⟨rfl,rfl⟩ (by as_aux_lemma=>kernel_rfl) rfl plain (Go.SW.goes_none rfl (by as_aux_lemma=>kernel_rfl))
#print axioms card
end Go.Proofs.YtfojlhfchpkhlaaGreatDoor.vaultAgain
