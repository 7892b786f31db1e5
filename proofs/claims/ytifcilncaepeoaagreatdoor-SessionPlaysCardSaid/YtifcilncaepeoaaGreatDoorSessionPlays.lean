/-
  SessionPlays: for every input the law returns true, and its arguments read as they did; the card, its listed variables tied to the program's text.
  Conditions: the listed package-level variables hold what the program's own text lays in them.
-/
import Derived.Test.YtifcilncaepeoaaGreatDoorSessionPlaysP7
import Derived.Test.YtifcilncaepeoaaGreatDoorSessionPlaysP3
import Derived.Test.YtifcilncaepeoaaGreatDoorCards
import Derived.Test.YtifcilncaepeoaaGreatDoorTie
import Derived.Deep.DeepHandedRow
import Derived.Deep.DeepWitnessRowRef
import Derived.Stop.LaidErr
import Derived.KernelRfl
set_option linter.unusedVariables false
set_option linter.unusedSimpArgs false
set_option maxRecDepth 100000
set_option maxHeartbeats 4000000
namespace Go.Proofs.YtifcilncaepeoaaGreatDoor.sessionPlays
open Go.ChangeShapes Go.WideShapes Go.ChangeAt Go.RowKit Go.SW Go.Proofs
theorem own:ownKnob Tryz.prog.godebug=none:=by kernel_rfl
theorem laidOut:laidOutB Tryz.prog=true:=by kernel_rfl
theorem rdv199:Rdv Tryz.prog 199 Go.SW.Pair.pc 4:=fun Ht enc w base spare held fuel cs x h hw=>by
  obtain⟨xs,n,_,rfl,hcl,hxl,hf⟩:=DataW.trod_struct Tryz.underlying199 h
  obtain⟨z0,q0⟩:=Cx_ Tryz.underlying199 hf hxl hw (i:=0) rfl (o:=0) rfl (ft:=9) rfl (k:=1) (by kernel_rfl) (I2_ Tryz.underlying9)
  obtain⟨z1,q1⟩:=Cx_ Tryz.underlying199 hf hxl hw (i:=1) rfl (o:=1) rfl (ft:=5) rfl (k:=1) (by kernel_rfl) (G0_ Tryz.underlying5)
  obtain⟨z2,q2⟩:=Cx_ Tryz.underlying199 hf hxl hw (i:=2) rfl (o:=2) rfl (ft:=2) rfl (k:=1) (by kernel_rfl) (G0_ Tryz.underlying2)
  obtain⟨z3,q3⟩:=Cx_ Tryz.underlying199 hf hxl hw (i:=3) rfl (o:=3) rfl (ft:=9) rfl (k:=1) (by kernel_rfl) (I2_ Tryz.underlying9)
  have e:=(Dr_ q0 (Dr_ q1 (Dr_ q2 (M8_ (hcl.trans (by kernel_rfl)) q3))))
  rw[List.drop_zero] at e
  exact⟨(⟨z0,z1,z2,z3⟩:Go.SW.Pair),e⟩
theorem rdvs47:Rdv Tryz.prog 47 (fun xs:List Go.SW.Pair=>[Go.SW.PV.sl Go.SW.Pair.pc xs]) 1:=Vs_ Tryz.underlying47 (k:=4) (by kernel_rfl) (by decide) (of_decide_eq_true (by kernel_rfl)) rdv199
theorem rdv64:Rdv Tryz.prog 64 Go.SW.Method.pc 10:=fun Ht enc w base spare held fuel cs x h hw=>by
  obtain⟨xs,n,_,rfl,hcl,hxl,hf⟩:=DataW.trod_struct Tryz.underlying64 h
  obtain⟨z0,q0⟩:=Cx_ Tryz.underlying64 hf hxl hw (i:=0) rfl (o:=0) rfl (ft:=5) rfl (k:=1) (by kernel_rfl) (G0_ Tryz.underlying5)
  obtain⟨z1,q1⟩:=Cx_ Tryz.underlying64 hf hxl hw (i:=1) rfl (o:=1) rfl (ft:=5) rfl (k:=1) (by kernel_rfl) (G0_ Tryz.underlying5)
  obtain⟨z2,q2⟩:=Cx_ Tryz.underlying64 hf hxl hw (i:=2) rfl (o:=2) rfl (ft:=9) rfl (k:=1) (by kernel_rfl) (I2_ Tryz.underlying9)
  obtain⟨z3,q3⟩:=Cx_ Tryz.underlying64 hf hxl hw (i:=3) rfl (o:=3) rfl (ft:=9) rfl (k:=1) (by kernel_rfl) (I2_ Tryz.underlying9)
  obtain⟨z4,q4⟩:=Cx_ Tryz.underlying64 hf hxl hw (i:=4) rfl (o:=4) rfl (ft:=9) rfl (k:=1) (by kernel_rfl) (I2_ Tryz.underlying9)
  obtain⟨z5,q5⟩:=Cx_ Tryz.underlying64 hf hxl hw (i:=5) rfl (o:=5) rfl (ft:=47) rfl (k:=1) (by kernel_rfl) rdvs47
  obtain⟨z6,q6⟩:=Cx_ Tryz.underlying64 hf hxl hw (i:=6) rfl (o:=6) rfl (ft:=9) rfl (k:=1) (by kernel_rfl) (I2_ Tryz.underlying9)
  obtain⟨z7,q7⟩:=Cx_ Tryz.underlying64 hf hxl hw (i:=7) rfl (o:=7) rfl (ft:=27) rfl (k:=1) (by kernel_rfl) (G0_ Tryz.underlying27)
  obtain⟨z8,q8⟩:=Cx_ Tryz.underlying64 hf hxl hw (i:=8) rfl (o:=8) rfl (ft:=27) rfl (k:=1) (by kernel_rfl) (G0_ Tryz.underlying27)
  obtain⟨z9,q9⟩:=Cx_ Tryz.underlying64 hf hxl hw (i:=9) rfl (o:=9) rfl (ft:=4) rfl (k:=1) (by kernel_rfl) (Uh_ Tryz.underlying4)
  have e:=(Dr_ q0 (Dr_ q1 (Dr_ q2 (Dr_ q3 (Dr_ q4 (Dr_ q5 (Dr_ q6 (Dr_ q7 (Dr_ q8 (M8_ (hcl.trans (by kernel_rfl)) q9))))))))))
  rw[List.drop_zero] at e
  exact⟨(⟨z0,z1,z2,z3,z4,z5,z6,z7,z8,z9⟩:Go.SW.Method),e⟩
theorem rdv51:Rdv Tryz.prog 51 Go.SW.Mail.pc 7:=fun Ht enc w base spare held fuel cs x h hw=>by
  obtain⟨xs,n,_,rfl,hcl,hxl,hf⟩:=DataW.trod_struct Tryz.underlying51 h
  obtain⟨z0,q0⟩:=Cx_ Tryz.underlying51 hf hxl hw (i:=0) rfl (o:=0) rfl (ft:=27) rfl (k:=1) (by kernel_rfl) (G0_ Tryz.underlying27)
  obtain⟨z1,q1⟩:=Cx_ Tryz.underlying51 hf hxl hw (i:=1) rfl (o:=1) rfl (ft:=9) rfl (k:=1) (by kernel_rfl) (I2_ Tryz.underlying9)
  obtain⟨z2,q2⟩:=Cx_ Tryz.underlying51 hf hxl hw (i:=2) rfl (o:=2) rfl (ft:=9) rfl (k:=1) (by kernel_rfl) (I2_ Tryz.underlying9)
  obtain⟨z3,q3⟩:=Cx_ Tryz.underlying51 hf hxl hw (i:=3) rfl (o:=3) rfl (ft:=47) rfl (k:=1) (by kernel_rfl) rdvs47
  obtain⟨z4,q4⟩:=Cx_ Tryz.underlying51 hf hxl hw (i:=4) rfl (o:=4) rfl (ft:=9) rfl (k:=1) (by kernel_rfl) (I2_ Tryz.underlying9)
  obtain⟨z5,q5⟩:=Cx_ Tryz.underlying51 hf hxl hw (i:=5) rfl (o:=5) rfl (ft:=27) rfl (k:=1) (by kernel_rfl) (G0_ Tryz.underlying27)
  obtain⟨z6,q6⟩:=Cx_ Tryz.underlying51 hf hxl hw (i:=6) rfl (o:=6) rfl (ft:=5) rfl (k:=1) (by kernel_rfl) (G0_ Tryz.underlying5)
  have e:=(Dr_ q0 (Dr_ q1 (Dr_ q2 (Dr_ q3 (Dr_ q4 (Dr_ q5 (M8_ (hcl.trans (by kernel_rfl)) q6)))))))
  rw[List.drop_zero] at e
  exact⟨(⟨z0,z1,z2,z3,z4,z5,z6⟩:Go.SW.Mail),e⟩
theorem rdv99:Rdv Tryz.prog 99 Go.SW.ItemR.pc 9:=fun Ht enc w base spare held fuel cs x h hw=>by
  obtain⟨xs,n,_,rfl,hcl,hxl,hf⟩:=DataW.trod_struct Tryz.underlying99 h
  obtain⟨z0,q0⟩:=Cx_ Tryz.underlying99 hf hxl hw (i:=0) rfl (o:=0) rfl (ft:=51) rfl (k:=7) (by kernel_rfl) rdv51
  obtain⟨z1,q1⟩:=Cx_ Tryz.underlying99 hf hxl hw (i:=1) rfl (o:=7) rfl (ft:=4) rfl (k:=1) (by kernel_rfl) (Uh_ Tryz.underlying4)
  obtain⟨z2,q2⟩:=Cx_ Tryz.underlying99 hf hxl hw (i:=2) rfl (o:=8) rfl (ft:=4) rfl (k:=1) (by kernel_rfl) (Uh_ Tryz.underlying4)
  have e:=(Dr_ q0 (Dr_ q1 (M8_ (hcl.trans (by kernel_rfl)) q2)))
  rw[List.drop_zero] at e
  exact⟨(⟨z0,z1,z2⟩:Go.SW.ItemR),e⟩
theorem rdv101:Rdv Tryz.prog 101 Go.SW.Act28R.pc 24:=fun Ht enc w base spare held fuel cs x h hw=>by
  obtain⟨xs,n,_,rfl,hcl,hxl,hf⟩:=DataW.trod_struct Tryz.underlying101 h
  obtain⟨z0,q0⟩:=Cx_ Tryz.underlying101 hf hxl hw (i:=0) rfl (o:=0) rfl (ft:=5) rfl (k:=1) (by kernel_rfl) (G0_ Tryz.underlying5)
  obtain⟨z1,q1⟩:=Cx_ Tryz.underlying101 hf hxl hw (i:=1) rfl (o:=1) rfl (ft:=64) rfl (k:=10) (by kernel_rfl) rdv64
  obtain⟨z2,q2⟩:=Cx_ Tryz.underlying101 hf hxl hw (i:=2) rfl (o:=11) rfl (ft:=9) rfl (k:=1) (by kernel_rfl) (I2_ Tryz.underlying9)
  obtain⟨z3,q3⟩:=Cx_ Tryz.underlying101 hf hxl hw (i:=3) rfl (o:=12) rfl (ft:=27) rfl (k:=1) (by kernel_rfl) (G0_ Tryz.underlying27)
  obtain⟨z4,q4⟩:=Cx_ Tryz.underlying101 hf hxl hw (i:=4) rfl (o:=13) rfl (ft:=5) rfl (k:=1) (by kernel_rfl) (G0_ Tryz.underlying5)
  obtain⟨z5,q5⟩:=Cx_ Tryz.underlying101 hf hxl hw (i:=5) rfl (o:=14) rfl (ft:=99) rfl (k:=9) (by kernel_rfl) rdv99
  obtain⟨z6,q6⟩:=Cx_ Tryz.underlying101 hf hxl hw (i:=6) rfl (o:=23) rfl (ft:=5) rfl (k:=1) (by kernel_rfl) (G0_ Tryz.underlying5)
  have e:=(Dr_ q0 (Dr_ q1 (Dr_ q2 (Dr_ q3 (Dr_ q4 (Dr_ q5 (M8_ (hcl.trans (by kernel_rfl)) q6)))))))
  rw[List.drop_zero] at e
  exact⟨(⟨z0,z1,z2,z3,z4,z5,z6⟩:Go.SW.Act28R),e⟩
theorem rdvs91:Rdv Tryz.prog 91 (fun xs:List Go.SW.Act28R=>[Go.SW.PV.sl Go.SW.Act28R.pc xs]) 1:=Vs_ Tryz.underlying91 (k:=24) (by kernel_rfl) (by decide) (of_decide_eq_true (by kernel_rfl)) rdv101
theorem Te_ (H:Type) (enc:TypeId×Value→H) (W:World) (base:Nat) (args:Array Value) (ds gs:List (DataW H)) (before:List MemPlace)
    (hval0:∀ (j:Nat) t v,Tryz.f6.params[j]? = some t→args[j]? = some v→Value.okWide Tryz.prog W .any base t v)
    (hW:DataW.Whole enc Tryz.prog Tryz.f6.params.toList Rows.sessionPlaysSpec.vars false W args.toList ds gs before) (hWt:(DataW.weightsEach Tryz.prog (Tryz.f6.params.toList++(OpenSpec.ofChange Rows.sessionPlaysSpec).bare.plain.varTypes Tryz.prog) (ds++gs)).all (· ≤ reachBytes)=true) (hL:laidMetH Tryz.prog Rows.sessionPlaysRow.laid W) (hS:W.ShapedOpen Tryz.prog) :
    Calls Tryz.prog 6 args W fun e W'=>∃ v,e = .returned v∧Rows.sessionPlaysSpec.post enc Tryz.prog Tryz.f6 false true false false W args v W':=by
  have hL0:laidMet Tryz.prog Rows.sessionPlaysRow.laid W:=by
    rw[MakeChecks.laidMetH_plain _ _ _ (by kernel_rfl)] at hL
    exact hL
  have hW':=hW
  obtain⟨p,q,hA0,hV,rfl,hfz,hnd⟩:=hW
  have hA:DataW.TrodAll enc Tryz.prog W 0 (fun _=>true) true Tryz.f6.params.toList args.toList ds p:=hA0
  have hval:=hval0
  rw[Tryz.params6] at hA hval
  obtain⟨v0,vs0,d0,ds0,p0,q0,hargs,rfl,rfl,h0,r0⟩:=trodAll_cons hA
  obtain⟨v1,vs1,d1,ds1,p1,q1,rfl,rfl,rfl,h1,r1⟩:=trodAll_cons r0
  obtain⟨rfl,rfl,rfl⟩:=trodAll_nil r1
  obtain rfl :args = #[v0,v1]:=by cases args;simp_all
  obtain⟨rfl,rfl⟩:=trodVars_none hV
  obtain⟨place,s0⟩:=arg_str Tryz.underlying9 (hval 0 9 v0 rfl rfl) h0
  obtain⟨l,s1⟩:=arg_sl Tryz.underlying91 (hval 1 91 v1 rfl rfl) h1 (wt_arg (j:=1) (t:=91) hWt (by kernel_rfl) rfl) rdvs91
  clear hA0 hval0
  have hML:GInt (hp W) 2:=Up_ (t:=3) (zero:=#[.int .i64 0]) hS (of_decide_eq_true (by kernel_rfl)) (by kernel_rfl) rfl (by kernel_rfl) (by kernel_rfl) Tryz.underlying3
  have hCrc:GTab (hp W) 1 laidT:=gtab_of (g:=1) (n:=16) (by kernel_rfl) (by kernel_rfl) Tryz.underlying324 Tryz.underlying258 (by kernel_rfl) (by kernel_rfl) hL0
  have hTells:GStrs (hp W) 0 tellsT:=gstrs_of (g:=0) (zs:=tellsT) (by kernel_rfl) (by kernel_rfl) Tryz.underlying219 Tryz.underlying9 (by kernel_rfl) (by kernel_rfl) (laidMet.tail (laidMet.tail hL0))
  refine (law_run (vs:=[v0,v1]) (Go.SW.V.l28_SessionPlays_ok place l) (show Go.SW.V.gb.p (hp W) from ⟨hML,hCrc,hTells⟩) (Sims.cons s0 (Sims.cons s1 Sims.nil)) (Go.SW.V.l28_plays _ _ fun a ha=>s1.wf.2 a ha)).mono fun e W' ⟨he,hm⟩=>?_
  subst he
  exact⟨_,rfl,law_post (s:=Rows.sessionPlaysSpec) rfl hW' (mem0_below hm) laidOut (params_ok (ts:=Tryz.f6.params) (by kernel_rfl)) (tb:=4) rfl Tryz.underlying4 rfl⟩
/-- A world for the witness: the settled one, the listed variables holding what their initialisers lay. -/
theorem laid_met (os:Os):laidMet Tryz.prog Rows.sessionPlaysRow.laid ((laidW Tryz.prog os [(1,Rows.laid_stairwell_crc_laid),(4,Rows.laid_unicode_utf8_acceptRanges),(0,Rows.laid_stairwell_method_tells),(3,Rows.laid_unicode_utf8_first)]).forCall (fun _ _=>0) ⟨#[],#[.string ⟨#[]⟩, .slice none 0 0],[]⟩).memory:=
  laidMet_of_run' 8 (by kernel_rfl) (by kernel_rfl)
theorem reads (os:Os) {H:Type} (enc:TypeId×Value→H):∃ places,DataW.whole enc Tryz.prog ((laidW Tryz.prog os [(1,Rows.laid_stairwell_crc_laid),(4,Rows.laid_unicode_utf8_acceptRanges),(0,Rows.laid_stairwell_method_tells),(3,Rows.laid_unicode_utf8_first)]).forCall (fun _ _=>0) ⟨#[],#[.string ⟨#[]⟩, .slice none 0 0],[]⟩).memory Tryz.f6.params.toList Rows.sessionPlaysSpec.vars false (#[.string ⟨#[]⟩, .slice none 0 0]:Array Value).toList 8=some ([.lit (.string []), .nil],[],places):=
  ⟨[],by kernel_rfl⟩
theorem lifted (os:Os) (started:os.Started) (H:Type) (enc:TypeId×Value→H) (F:Stop.Interp) :
    ReturnsInHanded {} Tryz.checked os 6 .any ((OpenSpec.ofChange Rows.sessionPlaysSpec).preRow enc Tryz.prog Tryz.f6 Rows.sessionPlaysRow.domain false Rows.sessionPlaysRow.laid) (((OpenSpec.ofChange Rows.sessionPlaysSpec).at F).post enc Tryz.prog Tryz.f6 false true false false):=by
  obtain⟨places,hx⟩:=reads os enc
  refine returnsInHanded_of_row (C:=Tryz.checked) (s:=OpenSpec.ofChange Rows.sessionPlaysSpec) own started (by kernel_rfl) Tryz.func6
    (witness_row_at (enc:=enc) (C:=Tryz.checked) false (laidW Tryz.prog os [(1,Rows.laid_stairwell_crc_laid),(4,Rows.laid_unicode_utf8_acceptRanges),(0,Rows.laid_stairwell_method_tells),(3,Rows.laid_unicode_utf8_first)]) #[.string ⟨#[]⟩, .slice none 0 0] rfl (by kernel_rfl) (by kernel_rfl) (by kernel_rfl)
      (OpenSpec.preRow_of_cond 8 hx (by kernel_rfl) (fun k hk=>by cases hk) (by kernel_rfl) (laid_met os))) ?_
  intro W base args ds gs before hval hW _ _ hWt hL hS _
  exact Te_ H enc W base args ds gs before hval hW hWt hL hS
theorem closed:joinedFacts Tryz.pinned.checked.prog 6 Tryz.f6 (OpenSpec.ofChange Rows.sessionPlaysSpec).bare Rows.sessionPlaysRow=true:=by
  unfold joinedFacts
  simp only[Bool.and_eq_true]
  repeat' (refine And.intro ?_ ?_)
  all_goals (as_aux_lemma=>kernel_rfl)
theorem said:Rows.SessionPlaysSaid:=
  OpenClaim.holds_of_cond 6 Tryz.f6 rfl rfl rfl rfl rfl rfl rfl ⟨rfl,rfl,rfl,rfl,rfl⟩ rfl rfl rfl rfl rfl (by as_aux_lemma=>kernel_rfl) Tryz.func6 closed
    (of_decide_eq_true (by as_aux_lemma=>kernel_rfl)) (by unfold Func.isWrapper;first|(rw[if_pos (by decide +kernel)];kernel_rfl)|(rw[if_neg (by decide +kernel)];exact⟨rfl,rfl⟩))
    (fun os started H enc _ F=>by rw[OpenClaim.pre_eq_preRow];exact lifted os started H enc F)
theorem plain (f:FuncId) (fn:Func) (hf:Tryz.pinned.checked.prog.funcNamed "stairwell/stairwelllaw28.SessionPlays" = some f) (hfn:Tryz.pinned.checked.prog.funcs[f]? = some fn) :
    false=Tryz.pinned.checked.prog.looks []∧∀ (j:Nat) t,fn.params[j]? = some t→Tryz.pinned.checked.prog.wantsStandIn t=false:=by
  obtain rfl :f=6:=Option.some.inj ((show Tryz.prog.funcNamed "stairwell/stairwelllaw28.SessionPlays" = some 6 by kernel_rfl).symm.trans hf) |>.symm
  obtain rfl :fn=Tryz.f6:=(Option.some.inj (Tryz.func6.symm.trans hfn)).symm
  refine⟨by as_aux_lemma=>kernel_rfl,fun j t ht=>?_⟩
  rw[Tryz.params6] at ht
  have hm:t∈[9,91]:=by simpa using Array.mem_of_getElem? ht
  have hall:([9,91].all fun u=>!Tryz.prog.wantsStandIn u)=true:=by kernel_rfl
  exact (show Tryz.prog.wantsStandIn t=false by simpa using List.all_eq_true.1 hall t hm)
theorem card:Rows.SessionPlaysCardSaid:=
  Claim7.holds_tied_plain_at .later [] _ _ _ _ said (fun _ h=>by cases h) (by as_aux_lemma=>kernel_rfl) (fun _ h=>by cases h) sessionPlays_row_tie rfl ⟨rfl,rfl⟩ (by as_aux_lemma=>kernel_rfl) rfl plain (by as_aux_lemma=>kernel_rfl)
#print axioms card
end Go.Proofs.YtifcilncaepeoaaGreatDoor.sessionPlays
