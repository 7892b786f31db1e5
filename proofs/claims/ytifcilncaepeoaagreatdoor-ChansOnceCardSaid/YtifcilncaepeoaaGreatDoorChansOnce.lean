/-
  ChansOnce: for every input the law returns true, and its arguments read as they did; the card, its listed variables tied to the program's text.
  Conditions: the listed package-level variables hold what the program's own text lays in them.
-/
import Derived.Test.YtifcilncaepeoaaGreatDoorChansOnceP5
import Derived.Test.YtifcilncaepeoaaGreatDoorChansOnceP3
import Derived.Test.YtifcilncaepeoaaGreatDoorCards
import Derived.Test.YtifcilncaepeoaaGreatDoorTie
import Derived.Deep.DeepHandedRow
import Derived.Deep.DeepWitnessRowRef
import Derived.Stop.LaidErr
import Derived.KernelRfl
set_option linter.unusedVariables false
set_option linter.unusedSimpArgs false
set_option maxRecDepth 100000
set_option maxHeartbeats 4000000
namespace Go.Proofs.YtifcilncaepeoaaGreatDoor.chansOnce
open Go.ChangeShapes Go.WideShapes Go.ChangeAt Go.RowKit Go.SW Go.Proofs
theorem own:ownKnob Tryz.prog.godebug=none:=by kernel_rfl
theorem laidOut:laidOutB Tryz.prog=true:=by kernel_rfl
theorem rdv44:Rdv Tryz.prog 44 Go.SW.ShopR.pc 3:=fun Ht enc w base spare held fuel cs x h hw=>by
  obtain⟨xs,n,_,rfl,hcl,hxl,hf⟩:=DataW.trod_struct Tryz.underlying44 h
  obtain⟨z0,q0⟩:=S_ Tryz.underlying44 hf hxl hw (i:=0) rfl (o:=0) rfl (ft:=9) rfl (k:=1) (by kernel_rfl) (Ci_ Tryz.underlying9)
  obtain⟨z1,q1⟩:=S_ Tryz.underlying44 hf hxl hw (i:=1) rfl (o:=1) rfl (ft:=5) rfl (k:=1) (by kernel_rfl) (B7_ Tryz.underlying5)
  obtain⟨z2,q2⟩:=S_ Tryz.underlying44 hf hxl hw (i:=2) rfl (o:=2) rfl (ft:=9) rfl (k:=1) (by kernel_rfl) (Ci_ Tryz.underlying9)
  have e:=(Aj_ q0 (Aj_ q1 (Eq_ (hcl.trans (by kernel_rfl)) q2)))
  rw[List.drop_zero] at e
  exact⟨(⟨z0,z1,z2⟩:Go.SW.ShopR),e⟩
theorem rdv46:Rdv Tryz.prog 46 Go.SW.QueueR.pc 4:=fun Ht enc w base spare held fuel cs x h hw=>by
  obtain⟨xs,n,_,rfl,hcl,hxl,hf⟩:=DataW.trod_struct Tryz.underlying46 h
  obtain⟨z0,q0⟩:=S_ Tryz.underlying46 hf hxl hw (i:=0) rfl (o:=0) rfl (ft:=9) rfl (k:=1) (by kernel_rfl) (Ci_ Tryz.underlying9)
  obtain⟨z1,q1⟩:=S_ Tryz.underlying46 hf hxl hw (i:=1) rfl (o:=1) rfl (ft:=27) rfl (k:=1) (by kernel_rfl) (B7_ Tryz.underlying27)
  obtain⟨z2,q2⟩:=S_ Tryz.underlying46 hf hxl hw (i:=2) rfl (o:=2) rfl (ft:=27) rfl (k:=1) (by kernel_rfl) (B7_ Tryz.underlying27)
  obtain⟨z3,q3⟩:=S_ Tryz.underlying46 hf hxl hw (i:=3) rfl (o:=3) rfl (ft:=9) rfl (k:=1) (by kernel_rfl) (Ci_ Tryz.underlying9)
  have e:=(Aj_ q0 (Aj_ q1 (Aj_ q2 (Eq_ (hcl.trans (by kernel_rfl)) q3))))
  rw[List.drop_zero] at e
  exact⟨(⟨z0,z1,z2,z3⟩:Go.SW.QueueR),e⟩
theorem rdv199:Rdv Tryz.prog 199 Go.SW.Pair.pc 4:=fun Ht enc w base spare held fuel cs x h hw=>by
  obtain⟨xs,n,_,rfl,hcl,hxl,hf⟩:=DataW.trod_struct Tryz.underlying199 h
  obtain⟨z0,q0⟩:=S_ Tryz.underlying199 hf hxl hw (i:=0) rfl (o:=0) rfl (ft:=9) rfl (k:=1) (by kernel_rfl) (Ci_ Tryz.underlying9)
  obtain⟨z1,q1⟩:=S_ Tryz.underlying199 hf hxl hw (i:=1) rfl (o:=1) rfl (ft:=5) rfl (k:=1) (by kernel_rfl) (B7_ Tryz.underlying5)
  obtain⟨z2,q2⟩:=S_ Tryz.underlying199 hf hxl hw (i:=2) rfl (o:=2) rfl (ft:=2) rfl (k:=1) (by kernel_rfl) (B7_ Tryz.underlying2)
  obtain⟨z3,q3⟩:=S_ Tryz.underlying199 hf hxl hw (i:=3) rfl (o:=3) rfl (ft:=9) rfl (k:=1) (by kernel_rfl) (Ci_ Tryz.underlying9)
  have e:=(Aj_ q0 (Aj_ q1 (Aj_ q2 (Eq_ (hcl.trans (by kernel_rfl)) q3))))
  rw[List.drop_zero] at e
  exact⟨(⟨z0,z1,z2,z3⟩:Go.SW.Pair),e⟩
theorem V9_:Rdv Tryz.prog 47 (fun xs:List Go.SW.Pair=>[Go.SW.PV.sl Go.SW.Pair.pc xs]) 1:=H5_ Tryz.underlying47 (k:=4) (by kernel_rfl) (by decide) (of_decide_eq_true (by kernel_rfl)) rdv199
theorem rdv49:Rdv Tryz.prog 49 Go.SW.BindR.pc 6:=fun Ht enc w base spare held fuel cs x h hw=>by
  obtain⟨xs,n,_,rfl,hcl,hxl,hf⟩:=DataW.trod_struct Tryz.underlying49 h
  obtain⟨z0,q0⟩:=S_ Tryz.underlying49 hf hxl hw (i:=0) rfl (o:=0) rfl (ft:=9) rfl (k:=1) (by kernel_rfl) (Ci_ Tryz.underlying9)
  obtain⟨z1,q1⟩:=S_ Tryz.underlying49 hf hxl hw (i:=1) rfl (o:=1) rfl (ft:=9) rfl (k:=1) (by kernel_rfl) (Ci_ Tryz.underlying9)
  obtain⟨z2,q2⟩:=S_ Tryz.underlying49 hf hxl hw (i:=2) rfl (o:=2) rfl (ft:=4) rfl (k:=1) (by kernel_rfl) (Kl_ Tryz.underlying4)
  obtain⟨z3,q3⟩:=S_ Tryz.underlying49 hf hxl hw (i:=3) rfl (o:=3) rfl (ft:=9) rfl (k:=1) (by kernel_rfl) (Ci_ Tryz.underlying9)
  obtain⟨z4,q4⟩:=S_ Tryz.underlying49 hf hxl hw (i:=4) rfl (o:=4) rfl (ft:=47) rfl (k:=1) (by kernel_rfl) V9_
  obtain⟨z5,q5⟩:=S_ Tryz.underlying49 hf hxl hw (i:=5) rfl (o:=5) rfl (ft:=4) rfl (k:=1) (by kernel_rfl) (Kl_ Tryz.underlying4)
  have e:=(Aj_ q0 (Aj_ q1 (Aj_ q2 (Aj_ q3 (Aj_ q4 (Eq_ (hcl.trans (by kernel_rfl)) q5))))))
  rw[List.drop_zero] at e
  exact⟨(⟨z0,z1,z2,z3,z4,z5⟩:Go.SW.BindR),e⟩
theorem rdv51:Rdv Tryz.prog 51 Go.SW.Mail.pc 7:=fun Ht enc w base spare held fuel cs x h hw=>by
  obtain⟨xs,n,_,rfl,hcl,hxl,hf⟩:=DataW.trod_struct Tryz.underlying51 h
  obtain⟨z0,q0⟩:=S_ Tryz.underlying51 hf hxl hw (i:=0) rfl (o:=0) rfl (ft:=27) rfl (k:=1) (by kernel_rfl) (B7_ Tryz.underlying27)
  obtain⟨z1,q1⟩:=S_ Tryz.underlying51 hf hxl hw (i:=1) rfl (o:=1) rfl (ft:=9) rfl (k:=1) (by kernel_rfl) (Ci_ Tryz.underlying9)
  obtain⟨z2,q2⟩:=S_ Tryz.underlying51 hf hxl hw (i:=2) rfl (o:=2) rfl (ft:=9) rfl (k:=1) (by kernel_rfl) (Ci_ Tryz.underlying9)
  obtain⟨z3,q3⟩:=S_ Tryz.underlying51 hf hxl hw (i:=3) rfl (o:=3) rfl (ft:=47) rfl (k:=1) (by kernel_rfl) V9_
  obtain⟨z4,q4⟩:=S_ Tryz.underlying51 hf hxl hw (i:=4) rfl (o:=4) rfl (ft:=9) rfl (k:=1) (by kernel_rfl) (Ci_ Tryz.underlying9)
  obtain⟨z5,q5⟩:=S_ Tryz.underlying51 hf hxl hw (i:=5) rfl (o:=5) rfl (ft:=27) rfl (k:=1) (by kernel_rfl) (B7_ Tryz.underlying27)
  obtain⟨z6,q6⟩:=S_ Tryz.underlying51 hf hxl hw (i:=6) rfl (o:=6) rfl (ft:=5) rfl (k:=1) (by kernel_rfl) (B7_ Tryz.underlying5)
  have e:=(Aj_ q0 (Aj_ q1 (Aj_ q2 (Aj_ q3 (Aj_ q4 (Aj_ q5 (Eq_ (hcl.trans (by kernel_rfl)) q6)))))))
  rw[List.drop_zero] at e
  exact⟨(⟨z0,z1,z2,z3,z4,z5,z6⟩:Go.SW.Mail),e⟩
theorem rdv53:Rdv Tryz.prog 53 Go.SW.DeedR.pc 29:=fun Ht enc w base spare held fuel cs x h hw=>by
  obtain⟨xs,n,_,rfl,hcl,hxl,hf⟩:=DataW.trod_struct Tryz.underlying53 h
  obtain⟨z0,q0⟩:=S_ Tryz.underlying53 hf hxl hw (i:=0) rfl (o:=0) rfl (ft:=5) rfl (k:=1) (by kernel_rfl) (B7_ Tryz.underlying5)
  obtain⟨z1,q1⟩:=S_ Tryz.underlying53 hf hxl hw (i:=1) rfl (o:=1) rfl (ft:=27) rfl (k:=1) (by kernel_rfl) (B7_ Tryz.underlying27)
  obtain⟨z2,q2⟩:=S_ Tryz.underlying53 hf hxl hw (i:=2) rfl (o:=2) rfl (ft:=44) rfl (k:=3) (by kernel_rfl) rdv44
  obtain⟨z3,q3⟩:=S_ Tryz.underlying53 hf hxl hw (i:=3) rfl (o:=5) rfl (ft:=46) rfl (k:=4) (by kernel_rfl) rdv46
  obtain⟨z4,q4⟩:=S_ Tryz.underlying53 hf hxl hw (i:=4) rfl (o:=9) rfl (ft:=49) rfl (k:=6) (by kernel_rfl) rdv49
  obtain⟨z5,q5⟩:=S_ Tryz.underlying53 hf hxl hw (i:=5) rfl (o:=15) rfl (ft:=9) rfl (k:=1) (by kernel_rfl) (Ci_ Tryz.underlying9)
  obtain⟨z6,q6⟩:=S_ Tryz.underlying53 hf hxl hw (i:=6) rfl (o:=16) rfl (ft:=27) rfl (k:=1) (by kernel_rfl) (B7_ Tryz.underlying27)
  obtain⟨z7,q7⟩:=S_ Tryz.underlying53 hf hxl hw (i:=7) rfl (o:=17) rfl (ft:=5) rfl (k:=1) (by kernel_rfl) (B7_ Tryz.underlying5)
  obtain⟨z8,q8⟩:=S_ Tryz.underlying53 hf hxl hw (i:=8) rfl (o:=18) rfl (ft:=5) rfl (k:=1) (by kernel_rfl) (B7_ Tryz.underlying5)
  obtain⟨z9,q9⟩:=S_ Tryz.underlying53 hf hxl hw (i:=9) rfl (o:=19) rfl (ft:=5) rfl (k:=1) (by kernel_rfl) (B7_ Tryz.underlying5)
  obtain⟨z10,q10⟩:=S_ Tryz.underlying53 hf hxl hw (i:=10) rfl (o:=20) rfl (ft:=27) rfl (k:=1) (by kernel_rfl) (B7_ Tryz.underlying27)
  obtain⟨z11,q11⟩:=S_ Tryz.underlying53 hf hxl hw (i:=11) rfl (o:=21) rfl (ft:=51) rfl (k:=7) (by kernel_rfl) rdv51
  obtain⟨z12,q12⟩:=S_ Tryz.underlying53 hf hxl hw (i:=12) rfl (o:=28) rfl (ft:=9) rfl (k:=1) (by kernel_rfl) (Ci_ Tryz.underlying9)
  have e:=(Aj_ q0 (Aj_ q1 (Aj_ q2 (Aj_ q3 (Aj_ q4 (Aj_ q5 (Aj_ q6 (Aj_ q7 (Aj_ q8 (Aj_ q9 (Aj_ q10 (Aj_ q11 (Eq_ (hcl.trans (by kernel_rfl)) q12)))))))))))))
  rw[List.drop_zero] at e
  exact⟨(⟨z0,z1,z2,z3,z4,z5,z6,z7,z8,z9,z10,z11,z12⟩:Go.SW.DeedR),e⟩
theorem rdvs28:Rdv Tryz.prog 28 (fun xs:List Go.SW.DeedR=>[Go.SW.PV.sl Go.SW.DeedR.pc xs]) 1:=H5_ Tryz.underlying28 (k:=29) (by kernel_rfl) (by decide) (of_decide_eq_true (by kernel_rfl)) rdv53
theorem rdv36:Rdv Tryz.prog 36 Go.SW.ActR.pc 6:=fun Ht enc w base spare held fuel cs x h hw=>by
  obtain⟨xs,n,_,rfl,hcl,hxl,hf⟩:=DataW.trod_struct Tryz.underlying36 h
  obtain⟨z0,q0⟩:=S_ Tryz.underlying36 hf hxl hw (i:=0) rfl (o:=0) rfl (ft:=5) rfl (k:=1) (by kernel_rfl) (B7_ Tryz.underlying5)
  obtain⟨z1,q1⟩:=S_ Tryz.underlying36 hf hxl hw (i:=1) rfl (o:=1) rfl (ft:=27) rfl (k:=1) (by kernel_rfl) (B7_ Tryz.underlying27)
  obtain⟨z2,q2⟩:=S_ Tryz.underlying36 hf hxl hw (i:=2) rfl (o:=2) rfl (ft:=27) rfl (k:=1) (by kernel_rfl) (B7_ Tryz.underlying27)
  obtain⟨z3,q3⟩:=S_ Tryz.underlying36 hf hxl hw (i:=3) rfl (o:=3) rfl (ft:=9) rfl (k:=1) (by kernel_rfl) (Ci_ Tryz.underlying9)
  obtain⟨z4,q4⟩:=S_ Tryz.underlying36 hf hxl hw (i:=4) rfl (o:=4) rfl (ft:=4) rfl (k:=1) (by kernel_rfl) (Kl_ Tryz.underlying4)
  obtain⟨z5,q5⟩:=S_ Tryz.underlying36 hf hxl hw (i:=5) rfl (o:=5) rfl (ft:=28) rfl (k:=1) (by kernel_rfl) rdvs28
  have e:=(Aj_ q0 (Aj_ q1 (Aj_ q2 (Aj_ q3 (Aj_ q4 (Eq_ (hcl.trans (by kernel_rfl)) q5))))))
  rw[List.drop_zero] at e
  exact⟨(⟨z0,z1,z2,z3,z4,z5⟩:Go.SW.ActR),e⟩
theorem rdvs22:Rdv Tryz.prog 22 (fun xs:List Go.SW.ActR=>[Go.SW.PV.sl Go.SW.ActR.pc xs]) 1:=H5_ Tryz.underlying22 (k:=6) (by kernel_rfl) (by decide) (of_decide_eq_true (by kernel_rfl)) rdv36
theorem J2_ (H:Type) (enc:TypeId×Value→H) (W:World) (base:Nat) (args:Array Value) (ds gs:List (DataW H)) (before:List MemPlace)
    (hval0:∀ (j:Nat) t v,Tryz.f3.params[j]? = some t→args[j]? = some v→Value.okWide Tryz.prog W .any base t v)
    (hW:DataW.Whole enc Tryz.prog Tryz.f3.params.toList Rows.chansOnceSpec.vars false W args.toList ds gs before) (hWt:(DataW.weightsEach Tryz.prog (Tryz.f3.params.toList++(OpenSpec.ofChange Rows.chansOnceSpec).bare.plain.varTypes Tryz.prog) (ds++gs)).all (· ≤ reachBytes)=true) (hL:laidMetH Tryz.prog Rows.chansOnceRow.laid W) (hS:W.ShapedOpen Tryz.prog) :
    Calls Tryz.prog 3 args W fun e W'=>∃ v,e = .returned v∧Rows.chansOnceSpec.post enc Tryz.prog Tryz.f3 false true false false W args v W':=by
  have hL0:laidMet Tryz.prog Rows.chansOnceRow.laid W:=by
    rw[MakeChecks.laidMetH_plain _ _ _ (by kernel_rfl)] at hL
    exact hL
  have hW':=hW
  obtain⟨p,q,hA0,hV,rfl,hfz,hnd⟩:=hW
  have hA:DataW.TrodAll enc Tryz.prog W 0 (fun _=>true) true Tryz.f3.params.toList args.toList ds p:=hA0
  have hval:=hval0
  rw[Tryz.params3] at hA hval
  obtain⟨v0,vs0,d0,ds0,p0,q0,hargs,rfl,rfl,h0,r0⟩:=trodAll_cons hA
  obtain⟨rfl,rfl,rfl⟩:=trodAll_nil r0
  obtain rfl :args = #[v0]:=by cases args;simp_all
  obtain⟨rfl,rfl⟩:=trodVars_none hV
  obtain⟨l,s0⟩:=arg_sl Tryz.underlying22 (hval 0 22 v0 rfl rfl) h0 (wt_arg (j:=0) (t:=22) hWt (by kernel_rfl) rfl) rdvs22
  clear hA0 hval0
  have hML:GInt (hp W) 2:=Jq_ (t:=3) (zero:=#[.int .i64 0]) hS (of_decide_eq_true (by kernel_rfl)) (by kernel_rfl) rfl (by kernel_rfl) (by kernel_rfl) Tryz.underlying3
  refine (law_run (vs:=[v0]) (Go.SW.V.l27_ChansOnce_ok l) (show Go.SW.V.gb.p (hp W) from hML) (Sims.cons s0 Sims.nil) (Go.SW.V.law27_once _)).mono fun e W' ⟨he,hm⟩=>?_
  subst he
  exact⟨_,rfl,T0_ (s:=Rows.chansOnceSpec) rfl hW' (O9_ hm) laidOut (Rj_ (ts:=Tryz.f3.params) (by kernel_rfl)) (tb:=4) rfl Tryz.underlying4 rfl⟩
/-- A world for the witness: the settled one, the listed variables holding what their initialisers lay. -/
theorem T3_ (os:Os):laidMet Tryz.prog Rows.chansOnceRow.laid ((laidW Tryz.prog os [(4,Rows.laid_unicode_utf8_acceptRanges),(3,Rows.laid_unicode_utf8_first)]).forCall (fun _ _=>0) ⟨#[],#[.slice none 0 0],[]⟩).memory:=
  laidMet_of_run' 8 (by kernel_rfl) (by kernel_rfl)
theorem reads (os:Os) {H:Type} (enc:TypeId×Value→H):∃ places,DataW.whole enc Tryz.prog ((laidW Tryz.prog os [(4,Rows.laid_unicode_utf8_acceptRanges),(3,Rows.laid_unicode_utf8_first)]).forCall (fun _ _=>0) ⟨#[],#[.slice none 0 0],[]⟩).memory Tryz.f3.params.toList Rows.chansOnceSpec.vars false (#[.slice none 0 0]:Array Value).toList 8=some ([.nil],[],places):=
  ⟨[],by kernel_rfl⟩
theorem lifted (os:Os) (started:os.Started) (H:Type) (enc:TypeId×Value→H) (F:Stop.Interp) :
    ReturnsInHanded {} Tryz.checked os 3 .any ((OpenSpec.ofChange Rows.chansOnceSpec).preRow enc Tryz.prog Tryz.f3 Rows.chansOnceRow.domain false Rows.chansOnceRow.laid) (((OpenSpec.ofChange Rows.chansOnceSpec).at F).post enc Tryz.prog Tryz.f3 false true false false):=by
  obtain⟨places,hx⟩:=reads os enc
  refine returnsInHanded_of_row (C:=Tryz.checked) (s:=OpenSpec.ofChange Rows.chansOnceSpec) own started (by kernel_rfl) Tryz.func3
    (witness_row_at (enc:=enc) (C:=Tryz.checked) false (laidW Tryz.prog os [(4,Rows.laid_unicode_utf8_acceptRanges),(3,Rows.laid_unicode_utf8_first)]) #[.slice none 0 0] rfl (by kernel_rfl) (by kernel_rfl) (by kernel_rfl)
      (OpenSpec.preRow_of_cond 8 hx (by kernel_rfl) (fun k hk=>by cases hk) (by kernel_rfl) (T3_ os))) ?_
  intro W base args ds gs before hval hW _ _ hWt hL hS _
  exact J2_ H enc W base args ds gs before hval hW hWt hL hS
theorem closed:joinedFacts Tryz.pinned.checked.prog 3 Tryz.f3 (OpenSpec.ofChange Rows.chansOnceSpec).bare Rows.chansOnceRow=true:=by
  unfold joinedFacts
  simp only[Bool.and_eq_true]
  repeat' (refine And.intro ?_ ?_)
  all_goals (as_aux_lemma=>kernel_rfl)
theorem said:Rows.ChansOnceSaid:=
  OpenClaim.holds_of_cond 3 Tryz.f3 rfl rfl rfl rfl rfl rfl rfl ⟨rfl,rfl,rfl,rfl,rfl⟩ rfl rfl rfl rfl rfl (by as_aux_lemma=>kernel_rfl) Tryz.func3 closed
    (of_decide_eq_true (by as_aux_lemma=>kernel_rfl)) (by unfold Func.isWrapper;first|(rw[if_pos (by decide +kernel)];kernel_rfl)|(rw[if_neg (by decide +kernel)];exact⟨rfl,rfl⟩))
    (fun os started H enc _ F=>by rw[OpenClaim.pre_eq_preRow];exact lifted os started H enc F)
theorem plain (f:FuncId) (fn:Func) (hf:Tryz.pinned.checked.prog.funcNamed "stairwell/stairwelllaw27.ChansOnce" = some f) (hfn:Tryz.pinned.checked.prog.funcs[f]? = some fn) :
    false=Tryz.pinned.checked.prog.looks []∧∀ (j:Nat) t,fn.params[j]? = some t→Tryz.pinned.checked.prog.wantsStandIn t=false:=by
  obtain rfl :f=3:=Option.some.inj ((show Tryz.prog.funcNamed "stairwell/stairwelllaw27.ChansOnce" = some 3 by kernel_rfl).symm.trans hf) |>.symm
  obtain rfl :fn=Tryz.f3:=(Option.some.inj (Tryz.func3.symm.trans hfn)).symm
  refine⟨by as_aux_lemma=>kernel_rfl,fun j t ht=>?_⟩
  rw[Tryz.params3] at ht
  have hm:t∈[22]:=by simpa using Array.mem_of_getElem? ht
  have hall:([22].all fun u=>!Tryz.prog.wantsStandIn u)=true:=by kernel_rfl
  exact (show Tryz.prog.wantsStandIn t=false by simpa using List.all_eq_true.1 hall t hm)
theorem card:Rows.ChansOnceCardSaid:=
  Claim7.holds_tied_plain_at .later [] _ _ _ _ said (fun _ h=>by cases h) (by as_aux_lemma=>kernel_rfl) (fun _ h=>by cases h) chansOnce_row_tie rfl ⟨rfl,rfl⟩ (by as_aux_lemma=>kernel_rfl) rfl plain (by as_aux_lemma=>kernel_rfl)
#print axioms card
end Go.Proofs.YtifcilncaepeoaaGreatDoor.chansOnce
