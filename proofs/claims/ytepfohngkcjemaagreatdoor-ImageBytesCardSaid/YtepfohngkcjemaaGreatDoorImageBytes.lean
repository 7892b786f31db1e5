/-
  ImageBytes: for every input the law returns true, and its arguments read as they did; the card, its listed variables tied to the program's text.
  Conditions: the listed package-level variables hold what the program's own text lays in them.
-/
import Derived.Test.YtepfohngkcjemaaGreatDoorImageBytesP14
set_option maxRecDepth 100000
set_option maxHeartbeats 4000000
namespace Go.Proofs.YtepfohngkcjemaaGreatDoor.imageBytes
open Go.ChangeShapes Go.WideShapes Go.ChangeAt Go.RowKit Go.SW Go.Proofs
theorem rdv122:Rdv Tryz.prog 122 Go.SW.Dc_.pc 2:=λHt enc w base spare held fuel cs x h hw=>by
 obtain⟨xs,n,_,rfl,hcl,hxl,hf⟩:=DataW.trod_struct Tryz.underlying122 h
 have⟨z0,q0⟩:=Cs_ Tryz.underlying122 hf hxl hw (i:=0) rfl (o:=0) rfl (ft:=5) rfl (k:=1) (by kernel_rfl) (Gf_ Tryz.underlying5)
 have⟨z1,q1⟩:=Cs_ Tryz.underlying122 hf hxl hw (i:=1) rfl (o:=1) rfl (ft:=120) rfl (k:=1) (by kernel_rfl) (Gf_ Tryz.underlying120)
 have e:=(Dy_ q0 (Lx_ (hcl.trans (by kernel_rfl)) q1))
 rw[List.drop_zero] at e
 exact⟨(⟨z0,z1⟩:Go.SW.Dc_),e⟩
theorem rdv124:Rdv Tryz.prog 124 Go.SW.Bn_.pc 5:=λHt enc w base spare held fuel cs x h hw=>by
 obtain⟨xs,n,_,rfl,hcl,hxl,hf⟩:=DataW.trod_struct Tryz.underlying124 h
 have⟨z0,q0⟩:=Cs_ Tryz.underlying124 hf hxl hw (i:=0) rfl (o:=0) rfl (ft:=9) rfl (k:=1) (by kernel_rfl) (Ka_ Tryz.underlying9)
 have⟨z1,q1⟩:=Cs_ Tryz.underlying124 hf hxl hw (i:=1) rfl (o:=1) rfl (ft:=122) rfl (k:=2) (by kernel_rfl) rdv122
 have⟨z2,q2⟩:=Cs_ Tryz.underlying124 hf hxl hw (i:=2) rfl (o:=3) rfl (ft:=3) rfl (k:=1) (by kernel_rfl) (Gf_ Tryz.underlying3)
 have⟨z3,q3⟩:=Cs_ Tryz.underlying124 hf hxl hw (i:=3) rfl (o:=4) rfl (ft:=36) rfl (k:=1) (by kernel_rfl) (Gf_ Tryz.underlying36)
 have e:=(Dy_ q0 (Dy_ q1 (Dy_ q2 (Lx_ (hcl.trans (by kernel_rfl)) q3))))
 rw[List.drop_zero] at e
 exact⟨(⟨z0,z1,z2,z3⟩:Go.SW.Bn_),e⟩
theorem rdvs22:Rdv Tryz.prog 22 (λxs:List Go.SW.Bn_=>[Go.SW.PV.sl Go.SW.Bn_.pc xs]) 1:=Rb_ Tryz.underlying22 (k:=5) (by kernel_rfl) (by decide) (of_decide_eq_true (by kernel_rfl)) rdv124
theorem rdvs23:Rdv Tryz.prog 23 (λxs:List Int=>[Go.SW.PV.sl i64c xs]) 1:=Rb_ Tryz.underlying23 (k:=1) (by kernel_rfl) (by decide) (of_decide_eq_true (by kernel_rfl)) (Gf_ Tryz.underlying3)
theorem rdv133:Rdv Tryz.prog 133 Go.SW.Cc_.pc 3:=λHt enc w base spare held fuel cs x h hw=>by
 obtain⟨xs,n,_,rfl,hcl,hxl,hf⟩:=DataW.trod_struct Tryz.underlying133 h
 have⟨z0,q0⟩:=Cs_ Tryz.underlying133 hf hxl hw (i:=0) rfl (o:=0) rfl (ft:=3) rfl (k:=1) (by kernel_rfl) (Gf_ Tryz.underlying3)
 have⟨z1,q1⟩:=Cs_ Tryz.underlying133 hf hxl hw (i:=1) rfl (o:=1) rfl (ft:=3) rfl (k:=1) (by kernel_rfl) (Gf_ Tryz.underlying3)
 have⟨z2,q2⟩:=Cs_ Tryz.underlying133 hf hxl hw (i:=2) rfl (o:=2) rfl (ft:=3) rfl (k:=1) (by kernel_rfl) (Gf_ Tryz.underlying3)
 have e:=(Dy_ q0 (Dy_ q1 (Lx_ (hcl.trans (by kernel_rfl)) q2)))
 rw[List.drop_zero] at e
 exact⟨(⟨z0,z1,z2⟩:Go.SW.Cc_),e⟩
theorem rdvs24:Rdv Tryz.prog 24 (λxs:List Go.SW.Cc_=>[Go.SW.PV.sl Go.SW.Cc_.pc xs]) 1:=Rb_ Tryz.underlying24 (k:=3) (by kernel_rfl) (by decide) (of_decide_eq_true (by kernel_rfl)) rdv133
theorem rdv26:Rdv Tryz.prog 26 Go.SW.H_.pc 5:=λHt enc w base spare held fuel cs x h hw=>by
 obtain⟨xs,n,_,rfl,hcl,hxl,hf⟩:=DataW.trod_struct Tryz.underlying26 h
 have⟨z0,q0⟩:=Cs_ Tryz.underlying26 hf hxl hw (i:=0) rfl (o:=0) rfl (ft:=3) rfl (k:=1) (by kernel_rfl) (Gf_ Tryz.underlying3)
 have⟨z1,q1⟩:=Cs_ Tryz.underlying26 hf hxl hw (i:=1) rfl (o:=1) rfl (ft:=3) rfl (k:=1) (by kernel_rfl) (Gf_ Tryz.underlying3)
 have⟨z2,q2⟩:=Cs_ Tryz.underlying26 hf hxl hw (i:=2) rfl (o:=2) rfl (ft:=22) rfl (k:=1) (by kernel_rfl) rdvs22
 have⟨z3,q3⟩:=Cs_ Tryz.underlying26 hf hxl hw (i:=3) rfl (o:=3) rfl (ft:=23) rfl (k:=1) (by kernel_rfl) rdvs23
 have⟨z4,q4⟩:=Cs_ Tryz.underlying26 hf hxl hw (i:=4) rfl (o:=4) rfl (ft:=24) rfl (k:=1) (by kernel_rfl) rdvs24
 have e:=(Dy_ q0 (Dy_ q1 (Dy_ q2 (Dy_ q3 (Lx_ (hcl.trans (by kernel_rfl)) q4)))))
 rw[List.drop_zero] at e
 exact⟨(⟨z0,z1,z2,z3,z4⟩:Go.SW.H_),e⟩
theorem rdv80:Rdv Tryz.prog 80 Go.SW.X_.pc 3:=λHt enc w base spare held fuel cs x h hw=>by
 obtain⟨xs,n,_,rfl,hcl,hxl,hf⟩:=DataW.trod_struct Tryz.underlying80 h
 have⟨z0,q0⟩:=Cs_ Tryz.underlying80 hf hxl hw (i:=0) rfl (o:=0) rfl (ft:=9) rfl (k:=1) (by kernel_rfl) (Ka_ Tryz.underlying9)
 have⟨z1,q1⟩:=Cs_ Tryz.underlying80 hf hxl hw (i:=1) rfl (o:=1) rfl (ft:=5) rfl (k:=1) (by kernel_rfl) (Gf_ Tryz.underlying5)
 have⟨z2,q2⟩:=Cs_ Tryz.underlying80 hf hxl hw (i:=2) rfl (o:=2) rfl (ft:=9) rfl (k:=1) (by kernel_rfl) (Ka_ Tryz.underlying9)
 have e:=(Dy_ q0 (Dy_ q1 (Lx_ (hcl.trans (by kernel_rfl)) q2)))
 rw[List.drop_zero] at e
 exact⟨(⟨z0,z1,z2⟩:Go.SW.X_),e⟩
theorem rdv82:Rdv Tryz.prog 82 Go.SW.Aa_.pc 4:=λHt enc w base spare held fuel cs x h hw=>by
 obtain⟨xs,n,_,rfl,hcl,hxl,hf⟩:=DataW.trod_struct Tryz.underlying82 h
 have⟨z0,q0⟩:=Cs_ Tryz.underlying82 hf hxl hw (i:=0) rfl (o:=0) rfl (ft:=9) rfl (k:=1) (by kernel_rfl) (Ka_ Tryz.underlying9)
 have⟨z1,q1⟩:=Cs_ Tryz.underlying82 hf hxl hw (i:=1) rfl (o:=1) rfl (ft:=36) rfl (k:=1) (by kernel_rfl) (Gf_ Tryz.underlying36)
 have⟨z2,q2⟩:=Cs_ Tryz.underlying82 hf hxl hw (i:=2) rfl (o:=2) rfl (ft:=36) rfl (k:=1) (by kernel_rfl) (Gf_ Tryz.underlying36)
 have⟨z3,q3⟩:=Cs_ Tryz.underlying82 hf hxl hw (i:=3) rfl (o:=3) rfl (ft:=9) rfl (k:=1) (by kernel_rfl) (Ka_ Tryz.underlying9)
 have e:=(Dy_ q0 (Dy_ q1 (Dy_ q2 (Lx_ (hcl.trans (by kernel_rfl)) q3))))
 rw[List.drop_zero] at e
 exact⟨(⟨z0,z1,z2,z3⟩:Go.SW.Aa_),e⟩
theorem rdv298:Rdv Tryz.prog 298 Go.SW.Pair.pc 4:=λHt enc w base spare held fuel cs x h hw=>by
 obtain⟨xs,n,_,rfl,hcl,hxl,hf⟩:=DataW.trod_struct Tryz.underlying298 h
 have⟨z0,q0⟩:=Cs_ Tryz.underlying298 hf hxl hw (i:=0) rfl (o:=0) rfl (ft:=9) rfl (k:=1) (by kernel_rfl) (Ka_ Tryz.underlying9)
 have⟨z1,q1⟩:=Cs_ Tryz.underlying298 hf hxl hw (i:=1) rfl (o:=1) rfl (ft:=5) rfl (k:=1) (by kernel_rfl) (Gf_ Tryz.underlying5)
 have⟨z2,q2⟩:=Cs_ Tryz.underlying298 hf hxl hw (i:=2) rfl (o:=2) rfl (ft:=2) rfl (k:=1) (by kernel_rfl) (Gf_ Tryz.underlying2)
 have⟨z3,q3⟩:=Cs_ Tryz.underlying298 hf hxl hw (i:=3) rfl (o:=3) rfl (ft:=9) rfl (k:=1) (by kernel_rfl) (Ka_ Tryz.underlying9)
 have e:=(Dy_ q0 (Dy_ q1 (Dy_ q2 (Lx_ (hcl.trans (by kernel_rfl)) q3))))
 rw[List.drop_zero] at e
 exact⟨(⟨z0,z1,z2,z3⟩:Go.SW.Pair),e⟩
theorem rdvs83:Rdv Tryz.prog 83 (λxs:List Go.SW.Pair=>[Go.SW.PV.sl Go.SW.Pair.pc xs]) 1:=Rb_ Tryz.underlying83 (k:=4) (by kernel_rfl) (by decide) (of_decide_eq_true (by kernel_rfl)) rdv298
theorem rdv85:Rdv Tryz.prog 85 Go.SW.R_.pc 6:=λHt enc w base spare held fuel cs x h hw=>by
 obtain⟨xs,n,_,rfl,hcl,hxl,hf⟩:=DataW.trod_struct Tryz.underlying85 h
 have⟨z0,q0⟩:=Cs_ Tryz.underlying85 hf hxl hw (i:=0) rfl (o:=0) rfl (ft:=9) rfl (k:=1) (by kernel_rfl) (Ka_ Tryz.underlying9)
 have⟨z1,q1⟩:=Cs_ Tryz.underlying85 hf hxl hw (i:=1) rfl (o:=1) rfl (ft:=9) rfl (k:=1) (by kernel_rfl) (Ka_ Tryz.underlying9)
 have⟨z2,q2⟩:=Cs_ Tryz.underlying85 hf hxl hw (i:=2) rfl (o:=2) rfl (ft:=4) rfl (k:=1) (by kernel_rfl) (rdv_bool Tryz.underlying4)
 have⟨z3,q3⟩:=Cs_ Tryz.underlying85 hf hxl hw (i:=3) rfl (o:=3) rfl (ft:=9) rfl (k:=1) (by kernel_rfl) (Ka_ Tryz.underlying9)
 have⟨z4,q4⟩:=Cs_ Tryz.underlying85 hf hxl hw (i:=4) rfl (o:=4) rfl (ft:=83) rfl (k:=1) (by kernel_rfl) rdvs83
 have⟨z5,q5⟩:=Cs_ Tryz.underlying85 hf hxl hw (i:=5) rfl (o:=5) rfl (ft:=4) rfl (k:=1) (by kernel_rfl) (rdv_bool Tryz.underlying4)
 have e:=(Dy_ q0 (Dy_ q1 (Dy_ q2 (Dy_ q3 (Dy_ q4 (Lx_ (hcl.trans (by kernel_rfl)) q5))))))
 rw[List.drop_zero] at e
 exact⟨(⟨z0,z1,z2,z3,z4,z5⟩:Go.SW.R_),e⟩
theorem rdv87:Rdv Tryz.prog 87 Go.SW.Mail.pc 7:=λHt enc w base spare held fuel cs x h hw=>by
 obtain⟨xs,n,_,rfl,hcl,hxl,hf⟩:=DataW.trod_struct Tryz.underlying87 h
 have⟨z0,q0⟩:=Cs_ Tryz.underlying87 hf hxl hw (i:=0) rfl (o:=0) rfl (ft:=36) rfl (k:=1) (by kernel_rfl) (Gf_ Tryz.underlying36)
 have⟨z1,q1⟩:=Cs_ Tryz.underlying87 hf hxl hw (i:=1) rfl (o:=1) rfl (ft:=9) rfl (k:=1) (by kernel_rfl) (Ka_ Tryz.underlying9)
 have⟨z2,q2⟩:=Cs_ Tryz.underlying87 hf hxl hw (i:=2) rfl (o:=2) rfl (ft:=9) rfl (k:=1) (by kernel_rfl) (Ka_ Tryz.underlying9)
 have⟨z3,q3⟩:=Cs_ Tryz.underlying87 hf hxl hw (i:=3) rfl (o:=3) rfl (ft:=83) rfl (k:=1) (by kernel_rfl) rdvs83
 have⟨z4,q4⟩:=Cs_ Tryz.underlying87 hf hxl hw (i:=4) rfl (o:=4) rfl (ft:=9) rfl (k:=1) (by kernel_rfl) (Ka_ Tryz.underlying9)
 have⟨z5,q5⟩:=Cs_ Tryz.underlying87 hf hxl hw (i:=5) rfl (o:=5) rfl (ft:=36) rfl (k:=1) (by kernel_rfl) (Gf_ Tryz.underlying36)
 have⟨z6,q6⟩:=Cs_ Tryz.underlying87 hf hxl hw (i:=6) rfl (o:=6) rfl (ft:=5) rfl (k:=1) (by kernel_rfl) (Gf_ Tryz.underlying5)
 have e:=(Dy_ q0 (Dy_ q1 (Dy_ q2 (Dy_ q3 (Dy_ q4 (Dy_ q5 (Lx_ (hcl.trans (by kernel_rfl)) q6)))))))
 rw[List.drop_zero] at e
 exact⟨(⟨z0,z1,z2,z3,z4,z5,z6⟩:Go.SW.Mail),e⟩
theorem rdv89:Rdv Tryz.prog 89 Go.SW.T_.pc 29:=λHt enc w base spare held fuel cs x h hw=>by
 obtain⟨xs,n,_,rfl,hcl,hxl,hf⟩:=DataW.trod_struct Tryz.underlying89 h
 have⟨z0,q0⟩:=Cs_ Tryz.underlying89 hf hxl hw (i:=0) rfl (o:=0) rfl (ft:=5) rfl (k:=1) (by kernel_rfl) (Gf_ Tryz.underlying5)
 have⟨z1,q1⟩:=Cs_ Tryz.underlying89 hf hxl hw (i:=1) rfl (o:=1) rfl (ft:=36) rfl (k:=1) (by kernel_rfl) (Gf_ Tryz.underlying36)
 have⟨z2,q2⟩:=Cs_ Tryz.underlying89 hf hxl hw (i:=2) rfl (o:=2) rfl (ft:=80) rfl (k:=3) (by kernel_rfl) rdv80
 have⟨z3,q3⟩:=Cs_ Tryz.underlying89 hf hxl hw (i:=3) rfl (o:=5) rfl (ft:=82) rfl (k:=4) (by kernel_rfl) rdv82
 have⟨z4,q4⟩:=Cs_ Tryz.underlying89 hf hxl hw (i:=4) rfl (o:=9) rfl (ft:=85) rfl (k:=6) (by kernel_rfl) rdv85
 have⟨z5,q5⟩:=Cs_ Tryz.underlying89 hf hxl hw (i:=5) rfl (o:=15) rfl (ft:=9) rfl (k:=1) (by kernel_rfl) (Ka_ Tryz.underlying9)
 have⟨z6,q6⟩:=Cs_ Tryz.underlying89 hf hxl hw (i:=6) rfl (o:=16) rfl (ft:=36) rfl (k:=1) (by kernel_rfl) (Gf_ Tryz.underlying36)
 have⟨z7,q7⟩:=Cs_ Tryz.underlying89 hf hxl hw (i:=7) rfl (o:=17) rfl (ft:=5) rfl (k:=1) (by kernel_rfl) (Gf_ Tryz.underlying5)
 have⟨z8,q8⟩:=Cs_ Tryz.underlying89 hf hxl hw (i:=8) rfl (o:=18) rfl (ft:=5) rfl (k:=1) (by kernel_rfl) (Gf_ Tryz.underlying5)
 have⟨z9,q9⟩:=Cs_ Tryz.underlying89 hf hxl hw (i:=9) rfl (o:=19) rfl (ft:=5) rfl (k:=1) (by kernel_rfl) (Gf_ Tryz.underlying5)
 have⟨z10,q10⟩:=Cs_ Tryz.underlying89 hf hxl hw (i:=10) rfl (o:=20) rfl (ft:=36) rfl (k:=1) (by kernel_rfl) (Gf_ Tryz.underlying36)
 have⟨z11,q11⟩:=Cs_ Tryz.underlying89 hf hxl hw (i:=11) rfl (o:=21) rfl (ft:=87) rfl (k:=7) (by kernel_rfl) rdv87
 have⟨z12,q12⟩:=Cs_ Tryz.underlying89 hf hxl hw (i:=12) rfl (o:=28) rfl (ft:=9) rfl (k:=1) (by kernel_rfl) (Ka_ Tryz.underlying9)
 have e:=(Dy_ q0 (Dy_ q1 (Dy_ q2 (Dy_ q3 (Dy_ q4 (Dy_ q5 (Dy_ q6 (Dy_ q7 (Dy_ q8 (Dy_ q9 (Dy_ q10 (Dy_ q11 (Lx_ (hcl.trans (by kernel_rfl)) q12)))))))))))))
 rw[List.drop_zero] at e
 exact⟨(⟨z0,z1,z2,z3,z4,z5,z6,z7,z8,z9,z10,z11,z12⟩:Go.SW.T_),e⟩
theorem rdvs27:Rdv Tryz.prog 27 (λxs:List Go.SW.T_=>[Go.SW.PV.sl Go.SW.T_.pc xs]) 1:=Rb_ Tryz.underlying27 (k:=29) (by kernel_rfl) (by decide) (of_decide_eq_true (by kernel_rfl)) rdv89
theorem Wq_ (H:Type) (enc:TypeId×Value→H) (W:World) (base:Nat) (args:Array Value) (ds gs:List (DataW H)) (before:List MemPlace)
   (hval0:∀ (j:Nat) t v,Tryz.f3.params[j]? = some t→args[j]? = some v→Value.okWide Tryz.prog W .any base t v)
   (hW:DataW.Whole enc Tryz.prog Tryz.f3.params.toList Rows.imageBytesSpec.vars false W args.toList ds gs before) (hWt:(DataW.weightsEach Tryz.prog (Tryz.f3.params.toList++(OpenSpec.ofChange Rows.imageBytesSpec).bare.plain.varTypes Tryz.prog) (ds++gs)).all (· ≤ reachBytes)=true) (hL:laidMetH Tryz.prog Rows.imageBytesRow.laid W) (hS:W.ShapedOpen Tryz.prog) :
   Calls Tryz.prog 3 args W λe W'=>∃ v,e = .returned v∧Rows.imageBytesSpec.post enc Tryz.prog Tryz.f3 false true false false W args v W':=by
 have hL0:laidMet Tryz.prog Rows.imageBytesRow.laid W:=by
   rw[MakeChecks.laidMetH_plain _ _ _ (by kernel_rfl)] at hL
   exact hL
 have hW':=hW
 obtain⟨p,q,hA0,hV,rfl,hfz,hnd⟩:=hW
 have hA:DataW.TrodAll enc Tryz.prog W 0 (λ_=>true) true Tryz.f3.params.toList args.toList ds p:=hA0
 have hval:=hval0
 rw[Tryz.params3] at hA hval
 obtain⟨v0,vs0,d0,ds0,p0,q0,hargs,rfl,rfl,h0,r0⟩:=trodAll_cons hA
 obtain⟨v1,vs1,d1,ds1,p1,q1,rfl,rfl,rfl,h1,r1⟩:=trodAll_cons r0
 obtain⟨v2,vs2,d2,ds2,p2,q2,rfl,rfl,rfl,h2,r2⟩:=trodAll_cons r1
 obtain⟨rfl,rfl,rfl⟩:=trodAll_nil r2
 obtain rfl :args = #[v0,v1,v2]:=by cases args;simp_all
 obtain⟨rfl,rfl⟩:=trodVars_none hV
 have⟨p,s0⟩:=arg_rec Tryz.underlying26 (hval 0 26 v0 rfl rfl) h0 (wt_arg (j:=0) (t:=26) hWt (by kernel_rfl) rfl) rdv26
 have⟨place,s1⟩:=arg_int Tryz.underlying5 (hval 1 5 v1 rfl rfl) h1
 have⟨l,s2⟩:=arg_sl Tryz.underlying27 (hval 2 27 v2 rfl rfl) h2 (wt_arg (j:=2) (t:=27) hWt (by kernel_rfl) rfl) rdvs27
 clear hA0 hval0
 have hML:GInt (hp W) 0:=gint_of_shape (t:=3) (zero:=#[.int .i64 0]) hS (of_decide_eq_true (by kernel_rfl)) (by kernel_rfl) rfl (by kernel_rfl) (by kernel_rfl) Tryz.underlying3
 have hPow:GPow (hp W) 5:=gtab_of (g:=5) (n:=20) (by kernel_rfl) (by kernel_rfl) Tryz.underlying534 Tryz.underlying36 (by kernel_rfl) (by kernel_rfl) (laidMet.tail (laidMet.tail hL0))
 refine (law_run (vs:=[v0,v1,v2]) (Go.SW.V.l24_ImageBytes_ok p place l) (show Go.SW.V.gb.p (hp W) from ⟨hML,hPow⟩) (Sims.cons s0 (Sims.cons s1 (Sims.cons s2 Sims.nil))) (Go.SW.V.law24_bytes _ _ _ s0.wf s2.wf)).mono λe W' ⟨he,hm⟩=>?_
 subst he
 exact⟨_,rfl,law_post (s:=Rows.imageBytesSpec) rfl hW' (mem0_below hm) laidOut (params_ok (ts:=Tryz.f3.params) (by kernel_rfl)) (tb:=4) rfl Tryz.underlying4 rfl⟩
theorem reads (os:Os) {H:Type} (enc:TypeId×Value→H):∃ places,DataW.whole enc Tryz.prog ((laidWE Tryz.prog os 525 527 [(6,Rows.laid_math_bits_deBruijn32tab),(7,Rows.laid_math_bits_deBruijn64tab),(5,Rows.laid_internal_strconv_uint64pow10),(2,Rows.laid_unicode_utf8_acceptRanges),(1,Rows.laid_unicode_utf8_first)] [(4,Rows.laid_strconv_ErrRange),(3,Rows.laid_strconv_ErrSyntax)]).forCall (λ_ _=>0) ⟨#[],#[.agg #[.int .i64 0, .int .i64 0, .slice none 0 0, .slice none 0 0, .slice none 0 0], .int .u8 0, .slice none 0 0],[]⟩).memory Tryz.f3.params.toList Rows.imageBytesSpec.vars false (#[.agg #[.int .i64 0, .int .i64 0, .slice none 0 0, .slice none 0 0, .slice none 0 0], .int .u8 0, .slice none 0 0]:Array Value).toList 8=some ([.agg [.lit (.int .i64 0), .lit (.int .i64 0), .nil, .nil, .nil], .lit (.int .u8 0), .nil],[],places):=
 ⟨[],by kernel_rfl⟩
theorem lifted (os:Os) (started:os.Started) (H:Type) (enc:TypeId×Value→H) (F:Stop.Interp) :
   ReturnsInHanded {} Tryz.checked os 3 .any ((OpenSpec.ofChange Rows.imageBytesSpec).preRow enc Tryz.prog Tryz.f3 Rows.imageBytesRow.domain false Rows.imageBytesRow.laid) (((OpenSpec.ofChange Rows.imageBytesSpec).at F).post enc Tryz.prog Tryz.f3 false true false false):=by
 have⟨places,hx⟩:=reads os enc
 refine returnsInHanded_of_row (C:=Tryz.checked) (s:=OpenSpec.ofChange Rows.imageBytesSpec) own started (by kernel_rfl) Tryz.func3
   (witness_row_at (enc:=enc) (C:=Tryz.checked) false (laidWE Tryz.prog os 525 527 [(6,Rows.laid_math_bits_deBruijn32tab),(7,Rows.laid_math_bits_deBruijn64tab),(5,Rows.laid_internal_strconv_uint64pow10),(2,Rows.laid_unicode_utf8_acceptRanges),(1,Rows.laid_unicode_utf8_first)] [(4,Rows.laid_strconv_ErrRange),(3,Rows.laid_strconv_ErrSyntax)]) #[.agg #[.int .i64 0, .int .i64 0, .slice none 0 0, .slice none 0 0, .slice none 0 0], .int .u8 0, .slice none 0 0] rfl (by kernel_rfl) (by kernel_rfl) (by kernel_rfl)
     (OpenSpec.preRow_of_cond 8 hx (by kernel_rfl) (λk hk=>by cases hk) (by kernel_rfl) (laid_met os))) ?_
 intro W base args ds gs before hval hW _ _ hWt hL hS _
 exact Wq_ H enc W base args ds gs before hval hW hWt hL hS
theorem said:Rows.ImageBytesSaid:=
 OpenClaim.holds_of_cond 3 Tryz.f3 rfl rfl rfl rfl rfl rfl rfl ⟨rfl,rfl,rfl,rfl,rfl⟩ rfl rfl rfl rfl rfl fnm Tryz.func3 closed
   (of_decide_eq_true (by as_aux_lemma=>kernel_rfl)) (by unfold Func.isWrapper;first|(rw[if_pos (by decide +kernel)];kernel_rfl)|(rw[if_neg (by decide +kernel)];exact⟨rfl,rfl⟩))
   (λos started H enc _ F=>by rw[OpenClaim.pre_eq_preRow];exact lifted os started H enc F)
theorem plain (f:FuncId) (fn:Func) (hf:Tryz.pinned.checked.prog.funcNamed "stairwell/stairwelllaw24.ImageBytes" = some f) (hfn:Tryz.pinned.checked.prog.funcs[f]? = some fn) :
   true=Tryz.pinned.checked.prog.looks []∧∀ (j:Nat) t,fn.params[j]? = some t→Tryz.pinned.checked.prog.wantsStandIn t=false:=by
 obtain rfl :f=3:=Option.some.inj ((show Tryz.prog.funcNamed "stairwell/stairwelllaw24.ImageBytes" = some 3 from fnm).symm.trans hf) |>.symm
 obtain rfl :fn=Tryz.f3:=(Option.some.inj (Tryz.func3.symm.trans hfn)).symm
 refine⟨by as_aux_lemma=>kernel_rfl,λj t ht=>?_⟩
 rw[Tryz.params3] at ht
 have hm:t∈[26,5,27]:=by simpa using Array.mem_of_getElem? ht
 have hall:([26,5,27].all λu=>!Tryz.prog.wantsStandIn u)=true:=by kernel_rfl
 exact (show Tryz.prog.wantsStandIn t=false by simpa using List.all_eq_true.1 hall t hm)
theorem card:Rows.ImageBytesCardSaid:=
 Claim7.holds_tied_plain_at .later [] _ _ _ _ said (λ_ h=>by cases h) (by as_aux_lemma=>kernel_rfl) (λ_ h=>by cases h) imageBytes_row_tie rfl ⟨rfl,rfl⟩ (by as_aux_lemma=>kernel_rfl) rfl plain (Go.SW.goes_none rfl (by as_aux_lemma=>kernel_rfl))
#print axioms card
end Go.Proofs.YtepfohngkcjemaaGreatDoor.imageBytes
