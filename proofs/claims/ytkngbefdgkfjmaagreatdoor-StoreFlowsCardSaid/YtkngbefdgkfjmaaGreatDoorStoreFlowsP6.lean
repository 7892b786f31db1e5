/-
  A part of the proof of StoreFlows: The walks of this seat, printed by program: store.Store.bury, store.Store.settle, store.Store.late, store.Store.pull, store.Store.put, store.Store.Do.
-/
import Derived.Test.YtkngbefdgkfjmaaGreatDoorProg
import Derived.Test.YtkngbefdgkfjmaaGreatDoorStoreFlowsP3
import Derived.KernelRfl
import Derived.Test.YtkngbefdgkfjmaaGreatDoorStoreFlowsP5
import Derived.Test.YtkngbefdgkfjmaaGreatDoorStoreFlowsP4
set_option linter.unusedVariables false
set_option linter.unusedSimpArgs false
set_option maxRecDepth 100000
set_option maxHeartbeats 4000000
namespace Go.SW.V
open Go.SW Go.Proofs
abbrev R19_:(F_×ItemR×Int)->PV:=fun r=> .tup [.agg (F_.pc r.1), .agg (ItemR.pc r.2.1), .int .i64 r.2.2]
abbrev R20_:(Bs×Mail×Bool)->PV:=fun r=> .tup [.str r.1, .agg (Mail.pc r.2.1), .bool r.2.2]
abbrev R21_:C_->PV:=fun r=> .agg (C_.pc r)
abbrev R22_:(C_×U_×Int)->PV:=fun r=> .tup [.agg (C_.pc r.1), .agg (U_.pc r.2.1), .int .i64 r.2.2]
abbrev R23_:(C_×U_)->PV:=fun r=> .tup [.agg (C_.pc r.1), .agg (U_.pc r.2)]
theorem cb119:Z_ Tryz.prog 119:=W_ Tryz.func119 (by kernel_rfl) (by kernel_rfl)
theorem X6_:Fld Tryz.prog 230 0 0:=fun b o w=>by kernel_rfl
theorem fl230_1:Fld Tryz.prog 230 1 1:=fun b o w=>by kernel_rfl
theorem sz36:Sz Tryz.prog 36 1:=fun w=>by kernel_rfl
def tbv98:Tb:=[(3,ty3),(5,ty5),(9,ty9),(22,ty22),(26,ty26),(36,ty36),(43,ty43),(46,ty46),(52,ty52),(54,ty54),(60,ty60),(65,ty65),(67,ty67),(75,ty75),(77,ty77),(94,ty94),(160,ty160),(216,ty216),(230,ty230)]
theorem tv98:tbB Tryz.prog tbv98=true:=by kernel_rfl
theorem El_ (s:C_) (gone:List OutR) (tick:Int) (hs:StOk s:=by assumption) (hg:gone.length<=600/\∀ g∈gone,MlOk g.mail:=by first|assumption|exact⟨by omega,by assumption⟩):Fx Tryz.prog gb 119 (.agg (C_.pc s)) [.int .u64 tick] (.tup [.agg (C_.pc ((At_ s gone tick).1)), .int .i64 ((At_ s gone tick).2)]) 8 230 OutR.pc gone:=by
  refine fx_cw tv98 Tryz.func119 rfl Tryz.ntmps119 rfl cb119 rfl rfl fun w gone_l u0 N H hG=>?_;have s_x_book_shops_l:s.x.book.shops.length<=140737488355328:=w.1.1.1;have s_x_book_binds_l:s.x.book.binds.length<=140737488355328:=w.1.2.1.1;have s_x_stock_next_r:0<=s.x.stock.next /\ s.x.stock.next <= 18446744073709551615:=w.1.2.2.1;have s_x_stock_bytes_r:-9223372036854775808<=s.x.stock.bytes/\s.x.stock.bytes<=9223372036854775807:=w.1.2.2.2.1;have s_x_stock_rows_l:s.x.stock.rows.length<=140737488355328:=w.1.2.2.2.2.1.1;have s_x_notes_total_r:0<=s.x.notes.total/\s.x.notes.total<=18446744073709551615:=w.1.2.2.2.2.2.2.2.2.2.2.2.2.2.2.2.2.2.2.2.2.2.2.2.2.2.2.2.2.2.2.2.2.2.2.2.2.2.1;have s_x_notes_kept_l:s.x.notes.kept.length<=140737488355328:=w.1.2.2.2.2.2.2.2.2.2.2.2.2.2.2.2.2.2.2.2.2.2.2.2.2.2.2.2.2.2.2.2.2.2.2.2.2.2.2.1.1;have s_x_seen_e0_r:0<=s.x.seen.e0/\s.x.seen.e0<=18446744073709551615:=w.1.2.2.2.2.2.2.2.2.2.2.2.2.2.2.2.2.2.2.2.2.2.2.2.2.2.2.2.2.2.2.2.2.2.2.2.2.2.2.2.1;have s_x_seen_e1_r:0<=s.x.seen.e1/\s.x.seen.e1<=18446744073709551615:=w.1.2.2.2.2.2.2.2.2.2.2.2.2.2.2.2.2.2.2.2.2.2.2.2.2.2.2.2.2.2.2.2.2.2.2.2.2.2.2.2.2.1;have s_x_seen_e2_r:0<=s.x.seen.e2/\s.x.seen.e2<=18446744073709551615:=w.1.2.2.2.2.2.2.2.2.2.2.2.2.2.2.2.2.2.2.2.2.2.2.2.2.2.2.2.2.2.2.2.2.2.2.2.2.2.2.2.2.2.1;have s_x_seen_e3_r:0<=s.x.seen.e3/\s.x.seen.e3<=18446744073709551615:=w.1.2.2.2.2.2.2.2.2.2.2.2.2.2.2.2.2.2.2.2.2.2.2.2.2.2.2.2.2.2.2.2.2.2.2.2.2.2.2.2.2.2.2.1;have s_x_seen_e4_r:0<=s.x.seen.e4/\s.x.seen.e4<=18446744073709551615:=w.1.2.2.2.2.2.2.2.2.2.2.2.2.2.2.2.2.2.2.2.2.2.2.2.2.2.2.2.2.2.2.2.2.2.2.2.2.2.2.2.2.2.2.2.1;have s_x_seen_e5_r:0<=s.x.seen.e5/\s.x.seen.e5<=18446744073709551615:=w.1.2.2.2.2.2.2.2.2.2.2.2.2.2.2.2.2.2.2.2.2.2.2.2.2.2.2.2.2.2.2.2.2.2.2.2.2.2.2.2.2.2.2.2.2.1;have s_x_seen_e6_r:0<=s.x.seen.e6/\s.x.seen.e6<=18446744073709551615:=w.1.2.2.2.2.2.2.2.2.2.2.2.2.2.2.2.2.2.2.2.2.2.2.2.2.2.2.2.2.2.2.2.2.2.2.2.2.2.2.2.2.2.2.2.2.2.1;have s_x_seen_e7_r:0<=s.x.seen.e7/\s.x.seen.e7<=18446744073709551615:=w.1.2.2.2.2.2.2.2.2.2.2.2.2.2.2.2.2.2.2.2.2.2.2.2.2.2.2.2.2.2.2.2.2.2.2.2.2.2.2.2.2.2.2.2.2.2.2.1;have s_x_seen_e8_r:0<=s.x.seen.e8/\s.x.seen.e8<=18446744073709551615:=w.1.2.2.2.2.2.2.2.2.2.2.2.2.2.2.2.2.2.2.2.2.2.2.2.2.2.2.2.2.2.2.2.2.2.2.2.2.2.2.2.2.2.2.2.2.2.2.2.1;have s_x_seen_e9_r:0<=s.x.seen.e9/\s.x.seen.e9<=18446744073709551615:=w.1.2.2.2.2.2.2.2.2.2.2.2.2.2.2.2.2.2.2.2.2.2.2.2.2.2.2.2.2.2.2.2.2.2.2.2.2.2.2.2.2.2.2.2.2.2.2.2.2.1;have s_x_seen_e10_r:0<=s.x.seen.e10/\s.x.seen.e10<=18446744073709551615:=w.1.2.2.2.2.2.2.2.2.2.2.2.2.2.2.2.2.2.2.2.2.2.2.2.2.2.2.2.2.2.2.2.2.2.2.2.2.2.2.2.2.2.2.2.2.2.2.2.2.2.1;have s_x_seen_e11_r:0<=s.x.seen.e11/\s.x.seen.e11<=18446744073709551615:=w.1.2.2.2.2.2.2.2.2.2.2.2.2.2.2.2.2.2.2.2.2.2.2.2.2.2.2.2.2.2.2.2.2.2.2.2.2.2.2.2.2.2.2.2.2.2.2.2.2.2.2.1;have s_x_seen_e12_r:0<=s.x.seen.e12/\s.x.seen.e12<=18446744073709551615:=w.1.2.2.2.2.2.2.2.2.2.2.2.2.2.2.2.2.2.2.2.2.2.2.2.2.2.2.2.2.2.2.2.2.2.2.2.2.2.2.2.2.2.2.2.2.2.2.2.2.2.2.2.1;have s_x_seen_e13_r:0<=s.x.seen.e13/\s.x.seen.e13<=18446744073709551615:=w.1.2.2.2.2.2.2.2.2.2.2.2.2.2.2.2.2.2.2.2.2.2.2.2.2.2.2.2.2.2.2.2.2.2.2.2.2.2.2.2.2.2.2.2.2.2.2.2.2.2.2.2.2.1;have s_x_seen_e14_r:0<=s.x.seen.e14/\s.x.seen.e14<=18446744073709551615:=w.1.2.2.2.2.2.2.2.2.2.2.2.2.2.2.2.2.2.2.2.2.2.2.2.2.2.2.2.2.2.2.2.2.2.2.2.2.2.2.2.2.2.2.2.2.2.2.2.2.2.2.2.2.2.1;have s_x_seen_e15_r:0<=s.x.seen.e15/\s.x.seen.e15<=18446744073709551615:=w.1.2.2.2.2.2.2.2.2.2.2.2.2.2.2.2.2.2.2.2.2.2.2.2.2.2.2.2.2.2.2.2.2.2.2.2.2.2.2.2.2.2.2.2.2.2.2.2.2.2.2.2.2.2.2.1;have s_policy_work_r:-9223372036854775808<=s.policy.work/\s.policy.work<=9223372036854775807:=w.1.2.2.2.2.2.2.2.2.2.2.2.2.2.2.2.2.2.2.2.2.2.2.2.2.2.2.2.2.2.2.2.2.2.2.2.2.2.2.2.2.2.2.2.2.2.2.2.2.2.2.2.2.2.2.2.2.2.2.2.2.2.2.2.2.2.2.2.2.2.2.2.1;have s_policy_give_r:-9223372036854775808<=s.policy.give/\s.policy.give<=9223372036854775807:=w.1.2.2.2.2.2.2.2.2.2.2.2.2.2.2.2.2.2.2.2.2.2.2.2.2.2.2.2.2.2.2.2.2.2.2.2.2.2.2.2.2.2.2.2.2.2.2.2.2.2.2.2.2.2.2.2.2.2.2.2.2.2.2.2.2.2.2.2.2.2.2.2.2.1;have s_policy_places_l:s.policy.places.length<=140737488355328:=w.1.2.2.2.2.2.2.2.2.2.2.2.2.2.2.2.2.2.2.2.2.2.2.2.2.2.2.2.2.2.2.2.2.2.2.2.2.2.2.2.2.2.2.2.2.2.2.2.2.2.2.2.2.2.2.2.2.2.2.2.2.2.2.2.2.2.2.2.2.2.2.2.2.2.1.1;have s_policy_slots_l:s.policy.slots.length<=140737488355328:=w.1.2.2.2.2.2.2.2.2.2.2.2.2.2.2.2.2.2.2.2.2.2.2.2.2.2.2.2.2.2.2.2.2.2.2.2.2.2.2.2.2.2.2.2.2.2.2.2.2.2.2.2.2.2.2.2.2.2.2.2.2.2.2.2.2.2.2.2.2.2.2.2.2.2.2.1.1;have s_policy_grants_l:s.policy.grants.length<=140737488355328:=w.1.2.2.2.2.2.2.2.2.2.2.2.2.2.2.2.2.2.2.2.2.2.2.2.2.2.2.2.2.2.2.2.2.2.2.2.2.2.2.2.2.2.2.2.2.2.2.2.2.2.2.2.2.2.2.2.2.2.2.2.2.2.2.2.2.2.2.2.2.2.2.2.2.2.2.2.1.1;have s_place_r:-9223372036854775808<=s.place/\s.place<=9223372036854775807:=w.1.2.2.2.2.2.2.2.2.2.2.2.2.2.2.2.2.2.2.2.2.2.2.2.2.2.2.2.2.2.2.2.2.2.2.2.2.2.2.2.2.2.2.2.2.2.2.2.2.2.2.2.2.2.2.2.2.2.2.2.2.2.2.2.2.2.2.2.2.2.2.2.2.2.2.2.2.1;have tick_r:0<=tick/\tick<=18446744073709551615:=w.2.1;have hs0:=hs;obtain⟨⟨⟨hb1,hb2,hb3⟩,hk0,hn,hu⟩,hp0,hq1,hq2⟩:=hs0;have hpp:=hp0;obtain⟨hp1,hp2,hp3,hp4,hp5,hp6,hp7⟩:=hpp;have hk1:=hk0;obtain⟨⟨hr1,hr2,hr3⟩,hr4,hr5,hr6⟩:=hk1;have hgg:=hg;obtain⟨hg1,hg2⟩:=hgg;have e0:=At_.eq_1 s gone tick;refine gm tv98 14 [1,2] fun B2=>?_;refine loop (ι:=Nat×(List OutR)×Int×C_×Value) [2,3,6,7] [2] (fun ⟨f,gone1,lost,x,u_gone1⟩=>[(1, .osl 0),(8, .int .i64 lost)]) (fun ⟨f,gone1,lost,x,u_gone1⟩=>[(0, .arr u_gone1 8 230 OutR.pc gone1),(1, .box (B2 0) 54 (C_.pc x))]) (fun ⟨f,gone1,lost,x,u_gone1⟩=>wtk x.x.stock+wto gone1<f/\At_ s gone tick=A2_ tick f gone1 lost x/\Ms_ gone1 lost x) (fun ⟨f,gone1,lost,x,u_gone1⟩=>f) ⟨(wtk s.x.stock+wto gone+1),gone,0,s,(u0)⟩ ⟨rfl,rfl,trivial⟩ ⟨rfl,rfl,trivial⟩ ?_ ?_
  · exact⟨Nat.lt_succ_self _,e0,Xi_ (by assumption) (by assumption)⟩
  rintro⟨f,gone1,lost,x,u_gone1⟩ ⟨hp4_1,hp4_2,hp4_3⟩;have hI:=hp4_3;obtain⟨hi1,hi2,hi3,hi4⟩:=hp4_3;obtain⟨f1,rfl⟩:∃ q,f=q+1:=⟨f-1,by omega⟩;have e_f1:=hp4_2.trans (A2_.eq_2 _ _ _ _ _);refine gx tv98 8 ?_;refine cD e_f1 (fun p6 e7=>?_) (fun p64 e65=>?_)
  · refine gx tv98 5 ?_;refine Ho_ (ι:=Nat) [1,2,3,6,7,8] [0,1,2] (fun b8=>[(9, .own 3 b8 0)]) (fun b8=>[(3, .box b8 60 (QueueR.pc ((Ah_ x.x.stock ((gt gone1 0).queue)).1)))]) (fun b8=>PV.wf (.tup [.agg (QueueR.pc ((Ah_ x.x.stock ((gt gone1 0).queue)).1)), .bool ((Ah_ x.x.stock ((gt gone1 0).queue)).2)])) ?_ ?_
    · refine aN [3,4,5,6,7,8,9,10] 14 mixd ?_;refine gX tv98 [0,1,2,3] 10 ?_;refine vq 4 (eidx 0 tv98 rfl rfl rfl rfl rfl rfl rfl rfl (by omega)) rfl (by kernel_rfl) rfl fun w9=>?_;refine vq 5 (efld rfl X6_) rfl (by kernel_rfl) rfl fun w10=>?_;refine veL 6 [11] (by kernel_rfl) ⟨⟨_,rfl,?_⟩,⟨_,rfl,?_⟩,trivial⟩
      · have hc11:=getG (xs:=gone1) (k:=0) (by omega);have hz_hc11:=hi2 (gt gone1 0) (List.mem_of_getElem? hc11);have hy_hc11:=And.intro hz_hc11.1 hz_hc11.2.2.2;refine ej rfl (elod1 (i:=0) (.str ((gt gone1 0).queue)) 0 0 tv98 rfl rfl rfl rfl hc11 rfl rfl rfl rfl fun w12=>?_);refine vC 7 rfl (Dk_ x.x.stock _) rfl fun w13=>?_;refine gX tv98 [8,9,10] 3 ?_;refine vE 11 rfl (aL tv98 3 fun b14=>?_);refine vE 12 rfl (sA tv98 ?_);refine gX tv98 [13] 0 ?_;refine vD ?_;refine nX (b14) ?_ ⟨rfl,trivial⟩ ⟨rfl,trivial⟩;exact w13
      refine ej rfl (aL tv98 3 fun b15=>?_);have hc16:=getG (xs:=gone1) (k:=0) (by omega);have hz_hc16:=hi2 (gt gone1 0) (List.mem_of_getElem? hc16);have hy_hc16:=And.intro hz_hc16.1 hz_hc16.2.2.2;refine vE 6 rfl (elod1 (i:=0) (.str ((gt gone1 0).queue)) 0 0 tv98 rfl rfl rfl rfl hc16 rfl rfl rfl rfl fun w17=>?_);refine vC 7 rfl (Dk_ x.x.stock _) rfl fun w18=>?_;refine gX tv98 [8,9,10] 2 ?_;refine vE 12 rfl (sA tv98 ?_);refine gX tv98 [13] 0 ?_;refine vD ?_;refine nX (b15) ?_ ⟨rfl,trivial⟩ ⟨rfl,trivial⟩;exact w18
    generalize hr19:Ah_ x.x.stock ((gt gone1 0).queue)=r;rintro b8 w20;have e21:=e7.trans (Fk_ hr19.symm);refine gx tv98 9 ?_;refine cD e21 (fun p23 e24=>?_) (fun p26 e27=>?_)
    · refine gx tv98 6 ?_;refine ef (ecut1 tv98 rfl rfl rfl rfl rfl rfl rfl rfl (by omega) (by first|omega|(simp only[List.length_append];omega)) rfl fun u25=>?_);refine gx tv98 2 ?_;refine next ⟨f1,(gone1.drop 1),lost,x,(u25)⟩ rfl rfl ⟨rfl,rfl,trivial⟩ ⟨rfl,rfl,trivial⟩ ?_ ?_
      · (try simp only[]);omega
      exact⟨(by first|exact On_ (by omega) (by omega)|exact Q0_ (by assumption) (by omega) (by omega)|exact Oo_ (m:=_) (by omega) (by omega) (by first|assumption|exact Eq.symm (by assumption)) (by assumption) (by assumption) (by assumption) rfl (by assumption)),e24,(by first|exact Mv_ (by assumption) (by omega)|exact Mw_ (by assumption) (by assumption) (by assumption) (by omega)|exact Mx_ (m:=_) (by assumption) (by assumption) (by assumption) (by omega) (by first|assumption|exact Eq.symm (by assumption)) (by assumption) (by assumption) (by assumption) rfl (by assumption))⟩
    refine gx tv98 5 ?_;refine q1 (eidx 0 tv98 rfl rfl rfl rfl rfl rfl rfl rfl (by omega)) rfl fun w28=>?_;refine q1 (efld rfl fl230_1) rfl fun w29=>?_;have hc30:=getG (xs:=gone1) (k:=0) (by omega);have hz_hc30:=hi2 (gt gone1 0) (List.mem_of_getElem? hc30);have hy_hc30:=And.intro hz_hc30.1 hz_hc30.2.2.2;refine ef (elodA (i:=0) [.int .u64 ((gt gone1 0).mail.id), .str ((gt gone1 0).mail.shop), .str ((gt gone1 0).mail.key), .sl Pair.pc ((gt gone1 0).mail.head), .str ((gt gone1 0).mail.body), .int .u64 ((gt gone1 0).mail.due), .int .u8 ((gt gone1 0).mail.hops)] 0 1 tv98 rfl rfl rfl rfl rfl hc30 rfl rfl (by decide) rfl fun w31=>?_);refine cV e27 R1_ (Eh_ _) rfl fun r1 hr32 e34 w33=>?_;have hA34:=Q3_ ((gt gone1 0).mail)
    (try rw[<- hr32] at hA34)
    have :=wr_u8 (r1.hops+1);refine gm tv98 28 [4] fun B37=>?_;refine ef (ecallo 5 (D2_ _ (⟨r1.id,(r.1).dead,r1.key,r1.head,r1.body,0,(IntKind.wrap .u8 (r1.hops+1))⟩:Mail) _ (hm:=by dsimp only;exact⟨by omega,by omega⟩)) rfl rfl ?_);generalize hr40:K_ x (⟨r1.id,(r.1).dead,r1.key,r1.head,r1.body,0,(IntKind.wrap .u8 (r1.hops+1))⟩:Mail) tick=r2;intro u39 w38;have e41:=e34.trans (Fk_ hr40.symm);have hr40:=hr40.symm
    (try have hA41:=Ir_ (s:=x) (m:=(⟨r1.id,(r.1).dead,r1.key,r1.head,r1.body,0,(IntKind.wrap .u8 (r1.hops+1))⟩:Mail)) (tick:=tick) (by first|assumption|exact Bn_ (by assumption)) (by (try dsimp only);first|omega|exact Ku_ _);(try rw[<- hr40] at hA41);obtain⟨hA41_0,hA41_1,hA41_2⟩:=hA41)
    (try have hA42:=Iq_ (s:=x) (m:=(⟨r1.id,(r.1).dead,r1.key,r1.head,r1.body,0,(IntKind.wrap .u8 (r1.hops+1))⟩:Mail)) (tick:=tick) (by first|assumption|exact Bn_ (by assumption));(try rw[<- hr40] at hA42))
    refine gmy tv98 24 [6] fun B45=>?_;refine cE e41 (fun h46 e47=>?_) (fun h46 e61=>?_)
    · refine gx tv98 1 ?_;refine aN [7,8,9,10,11,12] 8 mixd ?_;refine gX tv98 [0,1,2] 5 ?_;refine vq 3 (eidx 0 tv98 rfl rfl rfl rfl rfl rfl rfl rfl (by omega)) rfl (by kernel_rfl) rfl fun w48=>?_;refine vq 4 (efld rfl X6_) rfl (by kernel_rfl) rfl fun w49=>?_;refine vE 5 rfl (elod1 (i:=0) (.str ((gt gone1 0).queue)) 0 0 tv98 rfl rfl rfl rfl hc30 rfl rfl rfl rfl fun w50=>?_);refine vE 6 rfl (eC (D1_ x _ _ _ (hn:=by exact st_nts (by first|assumption|exact Bn_ (by assumption)))) rfl ?_);generalize hr52:A0_ x tick 1 ((gt gone1 0).queue)=r3;intro w51;have e53:=e47.trans (Fk_ hr52.symm);have hr52:=hr52.symm
      (try have hA53:=Gx_ (s:=x) (t:=tick) (k:=1) (x:=((gt gone1 0).queue)) (by first|assumption|exact Bn_ (by assumption));(try rw[<- hr52] at hA53);obtain⟨hA53_0,hA53_1⟩:=hA53)
      refine vT 7 rfl (sA tv98 ?_);refine vD ?_;refine gy tv98 14 ?_;refine ef (ecut1 tv98 rfl rfl rfl rfl rfl rfl rfl rfl (by omega) (by first|omega|(simp only[List.length_append];omega)) rfl fun u55=>?_);refine gx tv98 2 ?_;refine next ⟨f1,(gone1.drop 1),(lost+1),r3,(u55)⟩ rfl rfl ⟨rfl,rfl,trivial⟩ ⟨rfl,rfl,trivial⟩ ?_ ?_
      · (try simp only[]);omega
      exact⟨(by first|exact On_ (by omega) (by omega)|exact Q0_ (by assumption) (by omega) (by omega)|exact Oo_ (m:=_) (by omega) (by omega) (by first|assumption|exact Eq.symm (by assumption)) (by assumption) (by assumption) (by assumption) rfl (by assumption)),e53,(by first|exact Mv_ (by assumption) (by omega)|exact Mw_ (by assumption) (by assumption) (by assumption) (by omega)|exact Mx_ (m:=_) (by assumption) (by assumption) (by assumption) (by omega) (by first|assumption|exact Eq.symm (by assumption)) (by assumption) (by assumption) (by assumption) rfl (by assumption))⟩
    have h56:=orl h46;have p57:=df h56;have h58:=orr h46;have h59:=Dd_ h58;have p60:=dt h59;refine gx tv98 2 ?_;refine sw_osl (t:=13) 5 rfl rfl ?_;refine aN [0,1,7,8,9,10,11,12] 6 mixd ?_;refine gX tv98 [0,1,2] 3 ?_;refine vE 3 rfl (app tv98 r2.2.1 rfl rfl rfl rfl rfl rfl rfl rfl rfl (src_o rfl rfl) (by have :=app_fit (by assumption) (by assumption) (by assumption);(try dsimp only);omega) rfl fun u62=>?_);refine vtp 4 rfl (by kernel_rfl) (by kernel_rfl) (sA tv98 ?_);refine gX tv98 [5] 0 ?_;refine vD ?_;refine gx tv98 4 ?_;refine ef (ecut1 tv98 rfl rfl rfl rfl rfl rfl rfl rfl (by omega) (by first|omega|(simp only[List.length_append];omega)) rfl fun u63=>?_);refine gx tv98 2 ?_;refine next ⟨f1,((gone1++r2.2.1).drop 1),lost,r2.1,(u63)⟩ rfl rfl ⟨rfl,rfl,trivial⟩ ⟨rfl,rfl,trivial⟩ ?_ ?_
    · (try simp only[]);omega
    exact⟨(by first|exact On_ (by omega) (by omega)|exact Q0_ (by assumption) (by omega) (by omega)|exact Oo_ (m:=_) (by omega) (by omega) (by first|assumption|exact Eq.symm (by assumption)) (by assumption) (by assumption) (by assumption) rfl (by assumption)),e61,(by first|exact Mv_ (by assumption) (by omega)|exact Mw_ (by assumption) (by assumption) (by assumption) (by omega)|exact Mx_ (m:=_) (by assumption) (by assumption) (by assumption) (by omega) (by first|assumption|exact Eq.symm (by assumption)) (by assumption) (by assumption) (by assumption) rfl (by assumption))⟩
  refine gm tv98 14 [] fun _=>?_;exact rt2 rfl rfl (Y_ (fun r:C_×Int=> .tup [.agg (C_.pc r.1), .int .i64 r.2]) e65 (ple rfl))
theorem Jk_ (s:C_) (d:DeedR) (hs:StOk s:=by assumption):Fn Tryz.prog gb 53 [.agg (C_.pc s), .agg (DeedR.pc d)] (.tup [.agg (C_.pc ((Ba_ s d).1)), .agg (U_.pc ((Ba_ s d).2.1)), .int .i64 ((Ba_ s d).2.2)]):=by
  refine fC Tryz.func53 tv98 Tryz.ntmps53 fun w N H hG=>?_;have s_x_book_shops_l:s.x.book.shops.length<=140737488355328:=w.1.1.1;have s_x_book_binds_l:s.x.book.binds.length<=140737488355328:=w.1.2.1.1;have s_x_stock_rows_l:s.x.stock.rows.length<=140737488355328:=w.1.2.2.2.2.1.1;have s_x_notes_kept_l:s.x.notes.kept.length<=140737488355328:=w.1.2.2.2.2.2.2.2.2.2.2.2.2.2.2.2.2.2.2.2.2.2.2.2.2.2.2.2.2.2.2.2.2.2.2.2.2.2.2.1.1;have s_policy_places_l:s.policy.places.length<=140737488355328:=w.1.2.2.2.2.2.2.2.2.2.2.2.2.2.2.2.2.2.2.2.2.2.2.2.2.2.2.2.2.2.2.2.2.2.2.2.2.2.2.2.2.2.2.2.2.2.2.2.2.2.2.2.2.2.2.2.2.2.2.2.2.2.2.2.2.2.2.2.2.2.2.2.2.2.1.1;have s_policy_slots_l:s.policy.slots.length<=140737488355328:=w.1.2.2.2.2.2.2.2.2.2.2.2.2.2.2.2.2.2.2.2.2.2.2.2.2.2.2.2.2.2.2.2.2.2.2.2.2.2.2.2.2.2.2.2.2.2.2.2.2.2.2.2.2.2.2.2.2.2.2.2.2.2.2.2.2.2.2.2.2.2.2.2.2.2.2.1.1;have s_policy_grants_l:s.policy.grants.length<=140737488355328:=w.1.2.2.2.2.2.2.2.2.2.2.2.2.2.2.2.2.2.2.2.2.2.2.2.2.2.2.2.2.2.2.2.2.2.2.2.2.2.2.2.2.2.2.2.2.2.2.2.2.2.2.2.2.2.2.2.2.2.2.2.2.2.2.2.2.2.2.2.2.2.2.2.2.2.2.2.1.1;have d_bind_want_l:d.bind.want.length<=140737488355328:=w.2.1.2.2.2.2.2.2.2.2.2.2.2.2.2.1.1;have d_mail_head_l:d.mail.head.length<=140737488355328:=w.2.1.2.2.2.2.2.2.2.2.2.2.2.2.2.2.2.2.2.2.2.2.2.2.2.2.1.1;have hs0:=hs;obtain⟨⟨⟨hb1,hb2,hb3⟩,hk0,hn,hu⟩,hp0,hq1,hq2⟩:=hs0;have hpp:=hp0;obtain⟨hp1,hp2,hp3,hp4,hp5,hp6,hp7⟩:=hpp;have hk1:=hk0;obtain⟨⟨hr1,hr2,hr3⟩,hr4,hr5,hr6⟩:=hk1;have e0:=Ba_.eq_1 s d;generalize Ba_ s d=z at e0 ⊢;refine gm tv98 18 [0,1,2,3] fun B2=>?_;refine cV e0 R11_ (Kj_ _ _ _) rfl fun r hr6 e8 w7=>?_;have hA8:=Uz_ (s:=s.x.stock) (n:=d.name) (id:=d.id) (by first|assumption|exact StOk.stk (by assumption))
  (try rw[<- hr6] at hA8)
  refine gm tv98 15 [4] fun B11=>?_;refine cN e8 (fun p14 e15=>?_) (fun p18 e19=>?_)
  · refine gm tv98 12 [] fun _=>?_;subst e15;exact qr3
  refine gx tv98 10 ?_;refine cD e19 (fun p21 e22=>?_) (fun p24 e25=>?_)
  · refine gm tv98 19 [] fun _=>?_;subst e22;exact qr3
  refine gx tv98 11 ?_;refine cV e25 R19_ (Gq_ _ _ _) rfl fun r1 hr26 e28 w27=>?_
  (try have hA28:=G8_ (s:=s.x.stock) (n:=d.name) (id:=d.id) (by first|assumption|exact StOk.stk (by assumption));(try rw[<- hr26] at hA28);obtain⟨hA28_0,hA28_1⟩:=hA28)
  refine gm tv98 32 [5,6,7] fun B31=>?_;refine cD e28 (fun p35 e36=>?_) (fun p40 e41=>?_)
  · refine gx tv98 7 ?_;refine ef (bsl 8 OutR.pc [(⟨d.name,r1.2.1.mail⟩:OutR)] tv98 rfl rfl rfl rfl rfl (fun _=>rfl) rfl (by decide) (by decide) rfl fun u37=>?_);refine gx tv98 2 ?_;refine ef (Uo_ (El_ (⟨(⟨s.x.book,r1.1,s.x.notes,s.x.seen,s.x.spent⟩:A8_),s.policy,s.place⟩:C_) _ _ (hs:=by exact A7_ (by assumption) (by assumption)) (hg:=by exact⟨by simp,fun g hg=>by rw[List.mem_singleton.1 hg];assumption⟩)) rfl rfl rfl rfl rfl rfl rfl fun w38=>?_);refine gm tv98 9 [] fun _=>?_;refine aN [2,3,8,9,10,11,12,13] 5 mixd ?_;refine gX tv98 [0,1] 3 ?_;refine vE 2 rfl (sA tv98 ?_);refine vT 3 rfl (sA tv98 ?_);refine gX tv98 [4] 0 ?_;refine vD ?_;refine gx tv98 2 ?_;subst e36;exact qr3
  refine gx tv98 3 ?_;refine aN [2,3,8,9,10,11,12,13] 5 mixd ?_;refine gX tv98 [0,1] 3 ?_;refine vE 2 rfl (sA tv98 ?_);refine vT 3 rfl (sA tv98 ?_);refine gX tv98 [4] 0 ?_;refine vD ?_;refine gx tv98 2 ?_;subst e41;exact qr3
theorem Kp_ (s:C_) (tick:Int) (hs:StOk s:=by assumption):Fn Tryz.prog gb 54 [.agg (C_.pc s), .int .u64 tick] (.tup [.agg (C_.pc ((Dg_ s tick).1)), .agg (U_.pc ((Dg_ s tick).2))]):=by
  refine fC Tryz.func54 tv98 Tryz.ntmps54 fun w N H hG=>?_;have s_x_book_shops_l:s.x.book.shops.length<=140737488355328:=w.1.1.1;have s_x_book_binds_l:s.x.book.binds.length<=140737488355328:=w.1.2.1.1;have s_x_stock_rows_l:s.x.stock.rows.length<=140737488355328:=w.1.2.2.2.2.1.1;have s_x_notes_kept_l:s.x.notes.kept.length<=140737488355328:=w.1.2.2.2.2.2.2.2.2.2.2.2.2.2.2.2.2.2.2.2.2.2.2.2.2.2.2.2.2.2.2.2.2.2.2.2.2.2.2.1.1;have s_policy_places_l:s.policy.places.length<=140737488355328:=w.1.2.2.2.2.2.2.2.2.2.2.2.2.2.2.2.2.2.2.2.2.2.2.2.2.2.2.2.2.2.2.2.2.2.2.2.2.2.2.2.2.2.2.2.2.2.2.2.2.2.2.2.2.2.2.2.2.2.2.2.2.2.2.2.2.2.2.2.2.2.2.2.2.2.1.1;have s_policy_slots_l:s.policy.slots.length<=140737488355328:=w.1.2.2.2.2.2.2.2.2.2.2.2.2.2.2.2.2.2.2.2.2.2.2.2.2.2.2.2.2.2.2.2.2.2.2.2.2.2.2.2.2.2.2.2.2.2.2.2.2.2.2.2.2.2.2.2.2.2.2.2.2.2.2.2.2.2.2.2.2.2.2.2.2.2.2.1.1;have s_policy_grants_l:s.policy.grants.length<=140737488355328:=w.1.2.2.2.2.2.2.2.2.2.2.2.2.2.2.2.2.2.2.2.2.2.2.2.2.2.2.2.2.2.2.2.2.2.2.2.2.2.2.2.2.2.2.2.2.2.2.2.2.2.2.2.2.2.2.2.2.2.2.2.2.2.2.2.2.2.2.2.2.2.2.2.2.2.2.2.1.1;have tick_r:0<=tick/\tick<=18446744073709551615:=w.2.1;have hs0:=hs;obtain⟨⟨⟨hb1,hb2,hb3⟩,hk0,hn,hu⟩,hp0,hq1,hq2⟩:=hs0;have hpp:=hp0;obtain⟨hp1,hp2,hp3,hp4,hp5,hp6,hp7⟩:=hpp;have hk1:=hk0;obtain⟨⟨hr1,hr2,hr3⟩,hr4,hr5,hr6⟩:=hk1;have e0:=Dg_.eq_1 s tick;refine gm tv98 14 [0,1,2] fun B2=>?_;refine sw_own (t:=6) (k:=8) (e:=230) 3 OutR.pc rfl rfl ?_;refine loop (ι:=Nat×(List OutR)×C_×Value) [1,2,4,5] [1,2] (fun ⟨f,gone,x,u_gone⟩=>[(6, .osl 3)]) (fun ⟨f,gone,x,u_gone⟩=>[(3, .arr u_gone 8 230 OutR.pc gone),(0, .box (B2 0) 54 (C_.pc x))]) (fun ⟨f,gone,x,u_gone⟩=>nik x.x.stock<f/\Dg_ s tick=Bw_ tick f gone x/\StOk x/\(∀ g∈gone,MlOk g.mail)/\gone.length+nik x.x.stock<=512) (fun ⟨f,gone,x,u_gone⟩=>f) ⟨(nik s.x.stock+1),[],s,(.slice none 0 0)⟩ ⟨rfl,trivial⟩ ⟨rfl,rfl,trivial⟩ ?_ ?_
  · exact⟨Nat.lt_succ_self _,e0,⟨by assumption,(fun _ h=>by cases h),by have :=nik_r hk0;simpa using this⟩⟩
  rintro⟨f,gone,x,u_gone⟩ ⟨hp5_1,hp5_2,hp5_3⟩;obtain⟨hi1,hi2,hi3⟩:=hp5_3;obtain⟨f1,rfl⟩:∃ q,f=q+1:=⟨f-1,by omega⟩;have e_f1:=hp5_2.trans (Bw_.eq_2 _ _ _ _);refine gx tv98 7 ?_;refine cV e_f1 R20_ (Kl_ _ _) rfl fun r hr6 e8 w7=>?_;have hA8:=Qc_ (s:=x.x.stock) (t:=tick) (by first|assumption|exact StOk.stk (by assumption))
  (try rw[<- hr6] at hA8)
  refine gm tv98 17 [4] fun B11=>?_;refine cE e8 (fun h12 e14=>?_) (fun h12 e20=>?_)
  · have h13:=C7_ h12;refine gm tv98 20 [5] fun B16=>?_;refine ef (Uo_ (El_ _ _ _ (hg:=by exact⟨by omega,by assumption⟩)) rfl rfl rfl rfl rfl rfl rfl fun w17=>?_);refine gm tv98 9 [] fun _=>?_;refine aN [1,2,3,6,7,8,9,10] 4 mixd ?_;refine gX tv98 [0,1] 2 ?_;refine vE 2 rfl (sA tv98 ?_);refine vT 3 rfl (sA tv98 ?_);refine vD ?_;refine gx tv98 2 ?_;exact rt2 rfl rfl (Y_ (fun r:C_×U_=> .tup [.agg (C_.pc r.1), .agg (U_.pc r.2)]) e14 (ple rfl))
  have h19:=Dd_ h12;refine gx tv98 10 ?_;refine cV e20 R19_ (Gq_ _ _ _) rfl fun r1 hr21 e23 w22=>?_
  (try have hA23:=G8_ (s:=x.x.stock) (n:=r.1) (id:=r.2.1.id) (by first|assumption|exact StOk.stk (by assumption));(try rw[<- hr21] at hA23);obtain⟨hA23_0,hA23_1⟩:=hA23)
  refine gm tv98 14 [] fun _=>?_;refine ef (bsl 5 OutR.pc [(⟨r.1,r.2.1⟩:OutR)] tv98 rfl rfl rfl rfl rfl (fun _=>rfl) rfl (by decide) (by decide) rfl fun u26=>?_);refine ef (app tv98 [(⟨r.1,r.2.1⟩:OutR)] rfl rfl rfl rfl rfl rfl rfl rfl rfl (src_o rfl rfl) (by first|omega|(simp;omega)) rfl fun u27=>?_);refine gx tv98 3 ?_;refine next ⟨f1,(gone++[(⟨r.1,r.2.1⟩:OutR)]),(⟨(⟨x.x.book,r1.1,x.x.notes,x.x.seen,x.x.spent⟩:A8_),x.policy,x.place⟩:C_),(u27)⟩ rfl rfl ⟨rfl,trivial⟩ ⟨rfl,rfl,trivial⟩ ?_ ?_
  · (try simp only[]);omega
  exact⟨(Tu_ (StOk.stk (by assumption)) (by first|assumption|exact Eq.symm (by assumption)) (by assumption) (by first|assumption|exact Eq.symm (by assumption)) (by assumption)),e23,⟨A7_ (by assumption) (by assumption),(fun g hg=>by rcases List.mem_append.1 hg with q|q;exact hi2 g q;rw[List.mem_singleton.1 q];assumption),Tt_ (StOk.stk (by assumption)) (by first|assumption|exact Eq.symm (by assumption)) (by assumption) (by first|assumption|exact Eq.symm (by assumption)) (by assumption)⟩⟩
theorem Kr_ (s:C_) (d:DeedR) (hs:StOk s:=by assumption) (hd:DdOk d:=by assumption):Fn Tryz.prog gb 55 [.agg (C_.pc s), .agg (DeedR.pc d)] (.tup [.agg (C_.pc ((Bz_ s d).1)), .agg (U_.pc ((Bz_ s d).2.1)), .int .i64 ((Bz_ s d).2.2)]):=by
  refine fC Tryz.func55 tv98 Tryz.ntmps55 fun w N H hG=>?_;have s_x_book_shops_l:s.x.book.shops.length<=140737488355328:=w.1.1.1;have s_x_book_binds_l:s.x.book.binds.length<=140737488355328:=w.1.2.1.1;have s_x_stock_next_r:0<=s.x.stock.next /\ s.x.stock.next <= 18446744073709551615:=w.1.2.2.1;have s_x_stock_bytes_r:-9223372036854775808<=s.x.stock.bytes/\s.x.stock.bytes<=9223372036854775807:=w.1.2.2.2.1;have s_x_stock_rows_l:s.x.stock.rows.length<=140737488355328:=w.1.2.2.2.2.1.1;have s_x_notes_total_r:0<=s.x.notes.total/\s.x.notes.total<=18446744073709551615:=w.1.2.2.2.2.2.2.2.2.2.2.2.2.2.2.2.2.2.2.2.2.2.2.2.2.2.2.2.2.2.2.2.2.2.2.2.2.2.1;have s_x_notes_kept_l:s.x.notes.kept.length<=140737488355328:=w.1.2.2.2.2.2.2.2.2.2.2.2.2.2.2.2.2.2.2.2.2.2.2.2.2.2.2.2.2.2.2.2.2.2.2.2.2.2.2.1.1;have s_x_seen_e0_r:0<=s.x.seen.e0/\s.x.seen.e0<=18446744073709551615:=w.1.2.2.2.2.2.2.2.2.2.2.2.2.2.2.2.2.2.2.2.2.2.2.2.2.2.2.2.2.2.2.2.2.2.2.2.2.2.2.2.1;have s_x_seen_e1_r:0<=s.x.seen.e1/\s.x.seen.e1<=18446744073709551615:=w.1.2.2.2.2.2.2.2.2.2.2.2.2.2.2.2.2.2.2.2.2.2.2.2.2.2.2.2.2.2.2.2.2.2.2.2.2.2.2.2.2.1;have s_x_seen_e2_r:0<=s.x.seen.e2/\s.x.seen.e2<=18446744073709551615:=w.1.2.2.2.2.2.2.2.2.2.2.2.2.2.2.2.2.2.2.2.2.2.2.2.2.2.2.2.2.2.2.2.2.2.2.2.2.2.2.2.2.2.1;have s_x_seen_e3_r:0<=s.x.seen.e3/\s.x.seen.e3<=18446744073709551615:=w.1.2.2.2.2.2.2.2.2.2.2.2.2.2.2.2.2.2.2.2.2.2.2.2.2.2.2.2.2.2.2.2.2.2.2.2.2.2.2.2.2.2.2.1;have s_x_seen_e4_r:0<=s.x.seen.e4/\s.x.seen.e4<=18446744073709551615:=w.1.2.2.2.2.2.2.2.2.2.2.2.2.2.2.2.2.2.2.2.2.2.2.2.2.2.2.2.2.2.2.2.2.2.2.2.2.2.2.2.2.2.2.2.1;have s_x_seen_e5_r:0<=s.x.seen.e5/\s.x.seen.e5<=18446744073709551615:=w.1.2.2.2.2.2.2.2.2.2.2.2.2.2.2.2.2.2.2.2.2.2.2.2.2.2.2.2.2.2.2.2.2.2.2.2.2.2.2.2.2.2.2.2.2.1;have s_x_seen_e6_r:0<=s.x.seen.e6/\s.x.seen.e6<=18446744073709551615:=w.1.2.2.2.2.2.2.2.2.2.2.2.2.2.2.2.2.2.2.2.2.2.2.2.2.2.2.2.2.2.2.2.2.2.2.2.2.2.2.2.2.2.2.2.2.2.1;have s_x_seen_e7_r:0<=s.x.seen.e7/\s.x.seen.e7<=18446744073709551615:=w.1.2.2.2.2.2.2.2.2.2.2.2.2.2.2.2.2.2.2.2.2.2.2.2.2.2.2.2.2.2.2.2.2.2.2.2.2.2.2.2.2.2.2.2.2.2.2.1;have s_x_seen_e8_r:0<=s.x.seen.e8/\s.x.seen.e8<=18446744073709551615:=w.1.2.2.2.2.2.2.2.2.2.2.2.2.2.2.2.2.2.2.2.2.2.2.2.2.2.2.2.2.2.2.2.2.2.2.2.2.2.2.2.2.2.2.2.2.2.2.2.1;have s_x_seen_e9_r:0<=s.x.seen.e9/\s.x.seen.e9<=18446744073709551615:=w.1.2.2.2.2.2.2.2.2.2.2.2.2.2.2.2.2.2.2.2.2.2.2.2.2.2.2.2.2.2.2.2.2.2.2.2.2.2.2.2.2.2.2.2.2.2.2.2.2.1;have s_x_seen_e10_r:0<=s.x.seen.e10/\s.x.seen.e10<=18446744073709551615:=w.1.2.2.2.2.2.2.2.2.2.2.2.2.2.2.2.2.2.2.2.2.2.2.2.2.2.2.2.2.2.2.2.2.2.2.2.2.2.2.2.2.2.2.2.2.2.2.2.2.2.1;have s_x_seen_e11_r:0<=s.x.seen.e11/\s.x.seen.e11<=18446744073709551615:=w.1.2.2.2.2.2.2.2.2.2.2.2.2.2.2.2.2.2.2.2.2.2.2.2.2.2.2.2.2.2.2.2.2.2.2.2.2.2.2.2.2.2.2.2.2.2.2.2.2.2.2.1;have s_x_seen_e12_r:0<=s.x.seen.e12/\s.x.seen.e12<=18446744073709551615:=w.1.2.2.2.2.2.2.2.2.2.2.2.2.2.2.2.2.2.2.2.2.2.2.2.2.2.2.2.2.2.2.2.2.2.2.2.2.2.2.2.2.2.2.2.2.2.2.2.2.2.2.2.1;have s_x_seen_e13_r:0<=s.x.seen.e13/\s.x.seen.e13<=18446744073709551615:=w.1.2.2.2.2.2.2.2.2.2.2.2.2.2.2.2.2.2.2.2.2.2.2.2.2.2.2.2.2.2.2.2.2.2.2.2.2.2.2.2.2.2.2.2.2.2.2.2.2.2.2.2.2.1;have s_x_seen_e14_r:0<=s.x.seen.e14/\s.x.seen.e14<=18446744073709551615:=w.1.2.2.2.2.2.2.2.2.2.2.2.2.2.2.2.2.2.2.2.2.2.2.2.2.2.2.2.2.2.2.2.2.2.2.2.2.2.2.2.2.2.2.2.2.2.2.2.2.2.2.2.2.2.1;have s_x_seen_e15_r:0<=s.x.seen.e15/\s.x.seen.e15<=18446744073709551615:=w.1.2.2.2.2.2.2.2.2.2.2.2.2.2.2.2.2.2.2.2.2.2.2.2.2.2.2.2.2.2.2.2.2.2.2.2.2.2.2.2.2.2.2.2.2.2.2.2.2.2.2.2.2.2.2.1;have s_policy_work_r:-9223372036854775808<=s.policy.work/\s.policy.work<=9223372036854775807:=w.1.2.2.2.2.2.2.2.2.2.2.2.2.2.2.2.2.2.2.2.2.2.2.2.2.2.2.2.2.2.2.2.2.2.2.2.2.2.2.2.2.2.2.2.2.2.2.2.2.2.2.2.2.2.2.2.2.2.2.2.2.2.2.2.2.2.2.2.2.2.2.2.1;have s_policy_give_r:-9223372036854775808<=s.policy.give/\s.policy.give<=9223372036854775807:=w.1.2.2.2.2.2.2.2.2.2.2.2.2.2.2.2.2.2.2.2.2.2.2.2.2.2.2.2.2.2.2.2.2.2.2.2.2.2.2.2.2.2.2.2.2.2.2.2.2.2.2.2.2.2.2.2.2.2.2.2.2.2.2.2.2.2.2.2.2.2.2.2.2.1;have s_policy_places_l:s.policy.places.length<=140737488355328:=w.1.2.2.2.2.2.2.2.2.2.2.2.2.2.2.2.2.2.2.2.2.2.2.2.2.2.2.2.2.2.2.2.2.2.2.2.2.2.2.2.2.2.2.2.2.2.2.2.2.2.2.2.2.2.2.2.2.2.2.2.2.2.2.2.2.2.2.2.2.2.2.2.2.2.1.1;have s_policy_slots_l:s.policy.slots.length<=140737488355328:=w.1.2.2.2.2.2.2.2.2.2.2.2.2.2.2.2.2.2.2.2.2.2.2.2.2.2.2.2.2.2.2.2.2.2.2.2.2.2.2.2.2.2.2.2.2.2.2.2.2.2.2.2.2.2.2.2.2.2.2.2.2.2.2.2.2.2.2.2.2.2.2.2.2.2.2.1.1;have s_policy_grants_l:s.policy.grants.length<=140737488355328:=w.1.2.2.2.2.2.2.2.2.2.2.2.2.2.2.2.2.2.2.2.2.2.2.2.2.2.2.2.2.2.2.2.2.2.2.2.2.2.2.2.2.2.2.2.2.2.2.2.2.2.2.2.2.2.2.2.2.2.2.2.2.2.2.2.2.2.2.2.2.2.2.2.2.2.2.2.1.1;have s_place_r:-9223372036854775808<=s.place/\s.place<=9223372036854775807:=w.1.2.2.2.2.2.2.2.2.2.2.2.2.2.2.2.2.2.2.2.2.2.2.2.2.2.2.2.2.2.2.2.2.2.2.2.2.2.2.2.2.2.2.2.2.2.2.2.2.2.2.2.2.2.2.2.2.2.2.2.2.2.2.2.2.2.2.2.2.2.2.2.2.2.2.2.2.1;have d_kind_r:0<=d.kind/\d.kind<=255:=w.2.1.1;have d_tick_r:0<=d.tick/\d.tick<=18446744073709551615:=w.2.1.2.1;have d_shop_name_l:d.shop.name.length<=9223372036854775807:=w.2.1.2.2.1;have d_shop_sort_r:0<=d.shop.sort/\d.shop.sort<=255:=w.2.1.2.2.2.1;have d_shop_to_l:d.shop.to'.length<=9223372036854775807:=w.2.1.2.2.2.2.1;have d_queue_name_l:d.queue.name.length<=9223372036854775807:=w.2.1.2.2.2.2.2.1;have d_queue_most_r:0<=d.queue.most/\d.queue.most<=18446744073709551615:=w.2.1.2.2.2.2.2.2.1;have d_queue_life_r:0<=d.queue.life/\d.queue.life<=18446744073709551615:=w.2.1.2.2.2.2.2.2.2.1;have d_queue_dead_l:d.queue.dead.length<=9223372036854775807:=w.2.1.2.2.2.2.2.2.2.2.1;have d_bind_shop_l:d.bind.shop.length<=9223372036854775807:=w.2.1.2.2.2.2.2.2.2.2.2.1;have d_bind_to_l:d.bind.to'.length<=9223372036854775807:=w.2.1.2.2.2.2.2.2.2.2.2.2.1;have d_bind_key_l:d.bind.key.length<=9223372036854775807:=w.2.1.2.2.2.2.2.2.2.2.2.2.2.2.1;have d_bind_want_l:d.bind.want.length<=140737488355328:=w.2.1.2.2.2.2.2.2.2.2.2.2.2.2.2.1.1;have d_name_l:d.name.length<=9223372036854775807:=w.2.1.2.2.2.2.2.2.2.2.2.2.2.2.2.2.2.1;have d_id_r:0<=d.id/\d.id<=18446744073709551615:=w.2.1.2.2.2.2.2.2.2.2.2.2.2.2.2.2.2.2.1;have d_how_r:0<=d.how/\d.how<=255:=w.2.1.2.2.2.2.2.2.2.2.2.2.2.2.2.2.2.2.2.1;have d_frm_r:0<=d.frm/\d.frm<=255:=w.2.1.2.2.2.2.2.2.2.2.2.2.2.2.2.2.2.2.2.2.1;have d_code_r:0<=d.code/\d.code<=255:=w.2.1.2.2.2.2.2.2.2.2.2.2.2.2.2.2.2.2.2.2.2.1;have d_number_r:0<=d.number/\d.number<=18446744073709551615:=w.2.1.2.2.2.2.2.2.2.2.2.2.2.2.2.2.2.2.2.2.2.2.1;have d_mail_id_r:0<=d.mail.id/\d.mail.id<=18446744073709551615:=w.2.1.2.2.2.2.2.2.2.2.2.2.2.2.2.2.2.2.2.2.2.2.2.1;have d_mail_shop_l:d.mail.shop.length<=9223372036854775807:=w.2.1.2.2.2.2.2.2.2.2.2.2.2.2.2.2.2.2.2.2.2.2.2.2.1;have d_mail_key_l:d.mail.key.length<=9223372036854775807:=w.2.1.2.2.2.2.2.2.2.2.2.2.2.2.2.2.2.2.2.2.2.2.2.2.2.1;have d_mail_head_l:d.mail.head.length<=140737488355328:=w.2.1.2.2.2.2.2.2.2.2.2.2.2.2.2.2.2.2.2.2.2.2.2.2.2.2.1.1;have d_mail_body_l:d.mail.body.length<=9223372036854775807:=w.2.1.2.2.2.2.2.2.2.2.2.2.2.2.2.2.2.2.2.2.2.2.2.2.2.2.2.1;have d_mail_due_r:0<=d.mail.due/\d.mail.due<=18446744073709551615:=w.2.1.2.2.2.2.2.2.2.2.2.2.2.2.2.2.2.2.2.2.2.2.2.2.2.2.2.2.1;have d_mail_hops_r:0<=d.mail.hops/\d.mail.hops<=255:=w.2.1.2.2.2.2.2.2.2.2.2.2.2.2.2.2.2.2.2.2.2.2.2.2.2.2.2.2.2.1;have d_text_l:d.text.length<=9223372036854775807:=w.2.1.2.2.2.2.2.2.2.2.2.2.2.2.2.2.2.2.2.2.2.2.2.2.2.2.2.2.2.2.1;have hs0:=hs;obtain⟨⟨⟨hb1,hb2,hb3⟩,hk0,hn,hu⟩,hp0,hq1,hq2⟩:=hs0;have hpp:=hp0;obtain⟨hp1,hp2,hp3,hp4,hp5,hp6,hp7⟩:=hpp;have hk1:=hk0;obtain⟨⟨hr1,hr2,hr3⟩,hr4,hr5,hr6⟩:=hk1;have hd0:=hd;obtain⟨hd1,hd2,hd3,hd4⟩:=hd0;have e0:=Bz_.eq_1 s d;generalize Bz_ s d=z at e0 ⊢;refine gm tv98 30 [0,1,2,3] fun B2=>?_;refine cD e0 (fun p7 e8=>?_) (fun p10 e11=>?_)
  · refine gm tv98 12 [] fun _=>?_;subst e8;exact qr3
  refine gx tv98 7 ?_;refine call (D3_ _ _ _) rfl rfl fun w12=>?_;refine gy tv98 7 ?_;refine callg rfl (fun hc=>(Cv_ _ _ _)) rfl ⟨(fun hc=>hc),(fun hc=>hc),(fun hc=>hc),trivial⟩ rfl rfl fun _=>?_;refine gy tv98 5 ?_;refine cE e11 (fun h13 e18=>?_) (fun h13 e20=>?_)
  · have h14:=bl h13;have h15:=C7_ h14;have h16:=br h13;have p17:=dt h16;refine gm tv98 12 [] fun _=>?_;subst e18;exact qr3
  refine gx tv98 1 ?_;refine aN [4,5,6,7,8,9] 9 mixd ?_;refine gX tv98 [0,1,2,3,4] 4 ?_;refine vq 5 (qaia (d.frm).toNat rfl rfl Tryz.underlying47 sz36 (by omega) (by omega)) rfl (by kernel_rfl) rfl fun w21=>?_;refine vE 6 rfl (Kg_ (len:=16) (fun q=> .int .u64 (A16.get s.x.seen q)) ((d.frm).toNat) 39 1 0 tv98 rfl rfl rfl rfl rfl rfl (by omega) (bw16 rfl rfl rfl rfl rfl rfl rfl rfl rfl rfl rfl rfl rfl rfl rfl rfl) rfl fun w22=>?_);refine gX tv98 [7,8] 0 ?_;refine vD ?_;refine gx tv98 1 ?_;refine cD e20 (fun p24 e25=>?_) (fun p27 e28=>?_)
  · refine gm tv98 12 [] fun _=>?_;subst e25;exact qr3
  refine gx tv98 10 ?_;refine q1 (qaia (d.frm).toNat rfl rfl Tryz.underlying47 sz36 (by omega) (by omega)) rfl fun w29=>?_;refine ef (Qn_ (len:=16) (fun q=>C_.pc (⟨(⟨s.x.book,s.x.stock,s.x.notes,(A16.set s.x.seen d.number q),s.x.spent⟩:A8_),s.policy,s.place⟩:C_)) ((d.frm).toNat) 39 1 0 tv98 rfl rfl rfl rfl rfl rfl rfl (by omega) (bw16 rfl rfl rfl rfl rfl rfl rfl rfl rfl rfl rfl rfl rfl rfl rfl rfl) rfl (bw16 rfl rfl rfl rfl rfl rfl rfl rfl rfl rfl rfl rfl rfl rfl rfl rfl) rfl ?_);refine gx tv98 3 ?_;obtain⟨o,e_o,q_o⟩:=Hh_ e28;refine Ho_ (ι:=C_) [2,3,4,5,6] [1,2,3] (fun x=>[]) (fun x=>[(0, .box (B2 0) 54 (C_.pc x))]) (fun x=>o=x/\StOk x) ?_ ?_
  · refine gx tv98 7 ?_;refine call (D3_ _ _ _) rfl rfl fun w30=>?_;refine gx tv98 3 ?_;refine cE e_o (fun h31 e33=>?_) (fun h31 e41=>?_)
    · have h32:=C7_ h31;refine aN [4,5,6,7,8,9] 12 mixd ?_;refine gX tv98 [0,1,2,3,4,5,6] 5 ?_;have hc34:=getG (xs:=s.policy.places) (k:=(d.frm).toNat) (by omega);refine vq 7 (qidx tv98 (d.frm).toNat rfl rfl (by omega) hc34 rfl rfl rfl rfl) rfl (by kernel_rfl) rfl fun w35=>?_;refine gX tv98 [8,9] 2 ?_;refine vE 10 rfl (eC (D1_ (⟨(⟨s.x.book,s.x.stock,s.x.notes,(A16.set s.x.seen d.number ((d.frm).toNat)),s.x.spent⟩:A8_),s.policy,s.place⟩:C_) _ _ _ (hn:=by exact st_nts (by first|assumption|exact Bn_ (by assumption)))) rfl ?_);generalize hr37:A0_ (⟨(⟨s.x.book,s.x.stock,s.x.notes,(A16.set s.x.seen d.number ((d.frm).toNat)),s.x.spent⟩:A8_),s.policy,s.place⟩:C_) d.tick 2 ((gt s.policy.places ((d.frm).toNat)).name)=r;intro w36;have e38:=e33.trans (Fk_ hr37.symm);have hr37:=hr37.symm
      (try have hA38:=Gx_ (s:=(⟨(⟨s.x.book,s.x.stock,s.x.notes,(A16.set s.x.seen d.number ((d.frm).toNat)),s.x.spent⟩:A8_),s.policy,s.place⟩:C_)) (t:=d.tick) (k:=2) (x:=((gt s.policy.places ((d.frm).toNat)).name)) (by first|assumption|exact Bn_ (by assumption));(try rw[<- hr37] at hA38);obtain⟨hA38_0,hA38_1⟩:=hA38)
      refine vT 11 rfl (sA tv98 ?_);refine vD ?_;refine nX r ?_ trivial ⟨rfl,trivial⟩;exact⟨e38,by first|assumption|exact Bn_ (by assumption)⟩
    have h40:=Dd_ h31;refine gx tv98 1 ?_;refine nX (⟨(⟨s.x.book,s.x.stock,s.x.notes,(A16.set s.x.seen d.number ((d.frm).toNat)),s.x.spent⟩:A8_),s.policy,s.place⟩:C_) ?_ trivial ⟨rfl,trivial⟩;exact⟨e41,by first|assumption|exact Bn_ (by assumption)⟩
  rintro x ⟨hp42,hp42_3⟩;have e43:=Kd_ q_o hp42;refine gx tv98 5 ?_;refine cV e43 R1_ (Eh_ _) rfl fun r1 hr44 e46 w45=>?_;have hA46:=Q3_ d.mail
  (try rw[<- hr44] at hA46)
  have :=wr_u8 (r1.hops+1);refine gm tv98 19 [4] fun B49=>?_;refine ef (ecallo 5 (D2_ _ (⟨r1.id,r1.shop,r1.key,r1.head,r1.body,r1.due,(IntKind.wrap .u8 (r1.hops+1))⟩:Mail) _ (hs:=by first|assumption|exact Bn_ (by assumption)) (hm:=by dsimp only;exact⟨by omega,by omega⟩)) rfl rfl ?_);generalize hr52:K_ x (⟨r1.id,r1.shop,r1.key,r1.head,r1.body,r1.due,(IntKind.wrap .u8 (r1.hops+1))⟩:Mail) d.tick=r2;intro u51 w50;have e53:=e46.trans (Fk_ hr52.symm);have hr52:=hr52.symm
  (try have hA53:=Ir_ (s:=x) (m:=(⟨r1.id,r1.shop,r1.key,r1.head,r1.body,r1.due,(IntKind.wrap .u8 (r1.hops+1))⟩:Mail)) (tick:=d.tick) (by first|assumption|exact Bn_ (by assumption)) (by (try dsimp only);first|omega|exact Ku_ _);(try rw[<- hr52] at hA53);obtain⟨hA53_0,hA53_1,hA53_2⟩:=hA53)
  (try have hA54:=Iq_ (s:=x) (m:=(⟨r1.id,r1.shop,r1.key,r1.head,r1.body,r1.due,(IntKind.wrap .u8 (r1.hops+1))⟩:Mail)) (tick:=d.tick) (by first|assumption|exact Bn_ (by assumption));(try rw[<- hr52] at hA54))
  refine gmy tv98 24 [6] fun B57=>?_;refine cE e53 (fun h58 e59=>?_) (fun h58 e70=>?_)
  · refine gx tv98 7 ?_;refine cV e59 R21_ (D1_ _ _ _ _ (hn:=by exact st_nts (by first|assumption|exact Bn_ (by assumption)))) rfl fun r3 hr60 e62 w61=>?_
    (try have hA62:=Gx_ (s:=x) (t:=d.tick) (k:=1) (x:=r1.shop) (by first|assumption|exact Bn_ (by assumption));(try rw[<- hr60] at hA62);obtain⟨hA62_0,hA62_1⟩:=hA62)
    refine gm tv98 8 [] fun _=>?_;subst e62;exact qr3
  have h65:=orl h58;have p66:=df h65;have h67:=orr h58;have h68:=Dd_ h67;have p69:=dt h68;refine gm tv98 16 [7] fun B72=>?_;refine so_osl (t:=115) 5 rfl rfl ?_;refine ef (Uo_ (El_ _ _ _) rfl rfl rfl rfl rfl rfl rfl fun w73=>?_);refine gm tv98 9 [] fun _=>?_;refine aN [2,3,5,8,9,10,11,12] 5 mixd ?_;refine gX tv98 [0,1] 3 ?_;refine vE 2 rfl (sA tv98 ?_);refine vT 3 rfl (sA tv98 ?_);refine gX tv98 [4] 0 ?_;refine vD ?_;refine gx tv98 2 ?_;subst e70;exact qr3
theorem Lh_ (s:C_) (d:DeedR) (hs:StOk s:=by assumption) (hd:DdOk d:=by assumption):Fn Tryz.prog gb 51 [.agg (C_.pc s), .agg (DeedR.pc d)] (.tup [.agg (C_.pc ((B9_ s d).1)), .agg (U_.pc ((B9_ s d).2.1)), .int .i64 ((B9_ s d).2.2)]):=by
  refine fC Tryz.func51 tv98 Tryz.ntmps51 fun w N H hG=>?_;have s_x_book_shops_l:s.x.book.shops.length<=140737488355328:=w.1.1.1;have s_x_book_binds_l:s.x.book.binds.length<=140737488355328:=w.1.2.1.1;have s_x_stock_next_r:0<=s.x.stock.next /\ s.x.stock.next <= 18446744073709551615:=w.1.2.2.1;have s_x_stock_bytes_r:-9223372036854775808<=s.x.stock.bytes/\s.x.stock.bytes<=9223372036854775807:=w.1.2.2.2.1;have s_x_stock_rows_l:s.x.stock.rows.length<=140737488355328:=w.1.2.2.2.2.1.1;have s_x_notes_total_r:0<=s.x.notes.total/\s.x.notes.total<=18446744073709551615:=w.1.2.2.2.2.2.2.2.2.2.2.2.2.2.2.2.2.2.2.2.2.2.2.2.2.2.2.2.2.2.2.2.2.2.2.2.2.2.1;have s_x_notes_kept_l:s.x.notes.kept.length<=140737488355328:=w.1.2.2.2.2.2.2.2.2.2.2.2.2.2.2.2.2.2.2.2.2.2.2.2.2.2.2.2.2.2.2.2.2.2.2.2.2.2.2.1.1;have s_x_seen_e0_r:0<=s.x.seen.e0/\s.x.seen.e0<=18446744073709551615:=w.1.2.2.2.2.2.2.2.2.2.2.2.2.2.2.2.2.2.2.2.2.2.2.2.2.2.2.2.2.2.2.2.2.2.2.2.2.2.2.2.1;have s_x_seen_e1_r:0<=s.x.seen.e1/\s.x.seen.e1<=18446744073709551615:=w.1.2.2.2.2.2.2.2.2.2.2.2.2.2.2.2.2.2.2.2.2.2.2.2.2.2.2.2.2.2.2.2.2.2.2.2.2.2.2.2.2.1;have s_x_seen_e2_r:0<=s.x.seen.e2/\s.x.seen.e2<=18446744073709551615:=w.1.2.2.2.2.2.2.2.2.2.2.2.2.2.2.2.2.2.2.2.2.2.2.2.2.2.2.2.2.2.2.2.2.2.2.2.2.2.2.2.2.2.1;have s_x_seen_e3_r:0<=s.x.seen.e3/\s.x.seen.e3<=18446744073709551615:=w.1.2.2.2.2.2.2.2.2.2.2.2.2.2.2.2.2.2.2.2.2.2.2.2.2.2.2.2.2.2.2.2.2.2.2.2.2.2.2.2.2.2.2.1;have s_x_seen_e4_r:0<=s.x.seen.e4/\s.x.seen.e4<=18446744073709551615:=w.1.2.2.2.2.2.2.2.2.2.2.2.2.2.2.2.2.2.2.2.2.2.2.2.2.2.2.2.2.2.2.2.2.2.2.2.2.2.2.2.2.2.2.2.1;have s_x_seen_e5_r:0<=s.x.seen.e5/\s.x.seen.e5<=18446744073709551615:=w.1.2.2.2.2.2.2.2.2.2.2.2.2.2.2.2.2.2.2.2.2.2.2.2.2.2.2.2.2.2.2.2.2.2.2.2.2.2.2.2.2.2.2.2.2.1;have s_x_seen_e6_r:0<=s.x.seen.e6/\s.x.seen.e6<=18446744073709551615:=w.1.2.2.2.2.2.2.2.2.2.2.2.2.2.2.2.2.2.2.2.2.2.2.2.2.2.2.2.2.2.2.2.2.2.2.2.2.2.2.2.2.2.2.2.2.2.1;have s_x_seen_e7_r:0<=s.x.seen.e7/\s.x.seen.e7<=18446744073709551615:=w.1.2.2.2.2.2.2.2.2.2.2.2.2.2.2.2.2.2.2.2.2.2.2.2.2.2.2.2.2.2.2.2.2.2.2.2.2.2.2.2.2.2.2.2.2.2.2.1;have s_x_seen_e8_r:0<=s.x.seen.e8/\s.x.seen.e8<=18446744073709551615:=w.1.2.2.2.2.2.2.2.2.2.2.2.2.2.2.2.2.2.2.2.2.2.2.2.2.2.2.2.2.2.2.2.2.2.2.2.2.2.2.2.2.2.2.2.2.2.2.2.1;have s_x_seen_e9_r:0<=s.x.seen.e9/\s.x.seen.e9<=18446744073709551615:=w.1.2.2.2.2.2.2.2.2.2.2.2.2.2.2.2.2.2.2.2.2.2.2.2.2.2.2.2.2.2.2.2.2.2.2.2.2.2.2.2.2.2.2.2.2.2.2.2.2.1;have s_x_seen_e10_r:0<=s.x.seen.e10/\s.x.seen.e10<=18446744073709551615:=w.1.2.2.2.2.2.2.2.2.2.2.2.2.2.2.2.2.2.2.2.2.2.2.2.2.2.2.2.2.2.2.2.2.2.2.2.2.2.2.2.2.2.2.2.2.2.2.2.2.2.1;have s_x_seen_e11_r:0<=s.x.seen.e11/\s.x.seen.e11<=18446744073709551615:=w.1.2.2.2.2.2.2.2.2.2.2.2.2.2.2.2.2.2.2.2.2.2.2.2.2.2.2.2.2.2.2.2.2.2.2.2.2.2.2.2.2.2.2.2.2.2.2.2.2.2.2.1;have s_x_seen_e12_r:0<=s.x.seen.e12/\s.x.seen.e12<=18446744073709551615:=w.1.2.2.2.2.2.2.2.2.2.2.2.2.2.2.2.2.2.2.2.2.2.2.2.2.2.2.2.2.2.2.2.2.2.2.2.2.2.2.2.2.2.2.2.2.2.2.2.2.2.2.2.1;have s_x_seen_e13_r:0<=s.x.seen.e13/\s.x.seen.e13<=18446744073709551615:=w.1.2.2.2.2.2.2.2.2.2.2.2.2.2.2.2.2.2.2.2.2.2.2.2.2.2.2.2.2.2.2.2.2.2.2.2.2.2.2.2.2.2.2.2.2.2.2.2.2.2.2.2.2.1;have s_x_seen_e14_r:0<=s.x.seen.e14/\s.x.seen.e14<=18446744073709551615:=w.1.2.2.2.2.2.2.2.2.2.2.2.2.2.2.2.2.2.2.2.2.2.2.2.2.2.2.2.2.2.2.2.2.2.2.2.2.2.2.2.2.2.2.2.2.2.2.2.2.2.2.2.2.2.1;have s_x_seen_e15_r:0<=s.x.seen.e15/\s.x.seen.e15<=18446744073709551615:=w.1.2.2.2.2.2.2.2.2.2.2.2.2.2.2.2.2.2.2.2.2.2.2.2.2.2.2.2.2.2.2.2.2.2.2.2.2.2.2.2.2.2.2.2.2.2.2.2.2.2.2.2.2.2.2.1;have s_policy_work_r:-9223372036854775808<=s.policy.work/\s.policy.work<=9223372036854775807:=w.1.2.2.2.2.2.2.2.2.2.2.2.2.2.2.2.2.2.2.2.2.2.2.2.2.2.2.2.2.2.2.2.2.2.2.2.2.2.2.2.2.2.2.2.2.2.2.2.2.2.2.2.2.2.2.2.2.2.2.2.2.2.2.2.2.2.2.2.2.2.2.2.1;have s_policy_give_r:-9223372036854775808<=s.policy.give/\s.policy.give<=9223372036854775807:=w.1.2.2.2.2.2.2.2.2.2.2.2.2.2.2.2.2.2.2.2.2.2.2.2.2.2.2.2.2.2.2.2.2.2.2.2.2.2.2.2.2.2.2.2.2.2.2.2.2.2.2.2.2.2.2.2.2.2.2.2.2.2.2.2.2.2.2.2.2.2.2.2.2.1;have s_policy_places_l:s.policy.places.length<=140737488355328:=w.1.2.2.2.2.2.2.2.2.2.2.2.2.2.2.2.2.2.2.2.2.2.2.2.2.2.2.2.2.2.2.2.2.2.2.2.2.2.2.2.2.2.2.2.2.2.2.2.2.2.2.2.2.2.2.2.2.2.2.2.2.2.2.2.2.2.2.2.2.2.2.2.2.2.1.1;have s_policy_slots_l:s.policy.slots.length<=140737488355328:=w.1.2.2.2.2.2.2.2.2.2.2.2.2.2.2.2.2.2.2.2.2.2.2.2.2.2.2.2.2.2.2.2.2.2.2.2.2.2.2.2.2.2.2.2.2.2.2.2.2.2.2.2.2.2.2.2.2.2.2.2.2.2.2.2.2.2.2.2.2.2.2.2.2.2.2.1.1;have s_policy_grants_l:s.policy.grants.length<=140737488355328:=w.1.2.2.2.2.2.2.2.2.2.2.2.2.2.2.2.2.2.2.2.2.2.2.2.2.2.2.2.2.2.2.2.2.2.2.2.2.2.2.2.2.2.2.2.2.2.2.2.2.2.2.2.2.2.2.2.2.2.2.2.2.2.2.2.2.2.2.2.2.2.2.2.2.2.2.2.1.1;have s_place_r:-9223372036854775808<=s.place/\s.place<=9223372036854775807:=w.1.2.2.2.2.2.2.2.2.2.2.2.2.2.2.2.2.2.2.2.2.2.2.2.2.2.2.2.2.2.2.2.2.2.2.2.2.2.2.2.2.2.2.2.2.2.2.2.2.2.2.2.2.2.2.2.2.2.2.2.2.2.2.2.2.2.2.2.2.2.2.2.2.2.2.2.2.1;have d_kind_r:0<=d.kind/\d.kind<=255:=w.2.1.1;have d_tick_r:0<=d.tick/\d.tick<=18446744073709551615:=w.2.1.2.1;have d_shop_name_l:d.shop.name.length<=9223372036854775807:=w.2.1.2.2.1;have d_shop_sort_r:0<=d.shop.sort/\d.shop.sort<=255:=w.2.1.2.2.2.1;have d_shop_to_l:d.shop.to'.length<=9223372036854775807:=w.2.1.2.2.2.2.1;have d_queue_name_l:d.queue.name.length<=9223372036854775807:=w.2.1.2.2.2.2.2.1;have d_queue_most_r:0<=d.queue.most/\d.queue.most<=18446744073709551615:=w.2.1.2.2.2.2.2.2.1;have d_queue_life_r:0<=d.queue.life/\d.queue.life<=18446744073709551615:=w.2.1.2.2.2.2.2.2.2.1;have d_queue_dead_l:d.queue.dead.length<=9223372036854775807:=w.2.1.2.2.2.2.2.2.2.2.1;have d_bind_shop_l:d.bind.shop.length<=9223372036854775807:=w.2.1.2.2.2.2.2.2.2.2.2.1;have d_bind_to_l:d.bind.to'.length<=9223372036854775807:=w.2.1.2.2.2.2.2.2.2.2.2.2.1;have d_bind_key_l:d.bind.key.length<=9223372036854775807:=w.2.1.2.2.2.2.2.2.2.2.2.2.2.2.1;have d_bind_want_l:d.bind.want.length<=140737488355328:=w.2.1.2.2.2.2.2.2.2.2.2.2.2.2.2.1.1;have d_name_l:d.name.length<=9223372036854775807:=w.2.1.2.2.2.2.2.2.2.2.2.2.2.2.2.2.2.1;have d_id_r:0<=d.id/\d.id<=18446744073709551615:=w.2.1.2.2.2.2.2.2.2.2.2.2.2.2.2.2.2.2.1;have d_how_r:0<=d.how/\d.how<=255:=w.2.1.2.2.2.2.2.2.2.2.2.2.2.2.2.2.2.2.2.1;have d_frm_r:0<=d.frm/\d.frm<=255:=w.2.1.2.2.2.2.2.2.2.2.2.2.2.2.2.2.2.2.2.2.1;have d_code_r:0<=d.code/\d.code<=255:=w.2.1.2.2.2.2.2.2.2.2.2.2.2.2.2.2.2.2.2.2.2.1;have d_number_r:0<=d.number/\d.number<=18446744073709551615:=w.2.1.2.2.2.2.2.2.2.2.2.2.2.2.2.2.2.2.2.2.2.2.1;have d_mail_id_r:0<=d.mail.id/\d.mail.id<=18446744073709551615:=w.2.1.2.2.2.2.2.2.2.2.2.2.2.2.2.2.2.2.2.2.2.2.2.1;have d_mail_shop_l:d.mail.shop.length<=9223372036854775807:=w.2.1.2.2.2.2.2.2.2.2.2.2.2.2.2.2.2.2.2.2.2.2.2.2.1;have d_mail_key_l:d.mail.key.length<=9223372036854775807:=w.2.1.2.2.2.2.2.2.2.2.2.2.2.2.2.2.2.2.2.2.2.2.2.2.2.1;have d_mail_head_l:d.mail.head.length<=140737488355328:=w.2.1.2.2.2.2.2.2.2.2.2.2.2.2.2.2.2.2.2.2.2.2.2.2.2.2.1.1;have d_mail_body_l:d.mail.body.length<=9223372036854775807:=w.2.1.2.2.2.2.2.2.2.2.2.2.2.2.2.2.2.2.2.2.2.2.2.2.2.2.2.1;have d_mail_due_r:0<=d.mail.due/\d.mail.due<=18446744073709551615:=w.2.1.2.2.2.2.2.2.2.2.2.2.2.2.2.2.2.2.2.2.2.2.2.2.2.2.2.2.1;have d_mail_hops_r:0<=d.mail.hops/\d.mail.hops<=255:=w.2.1.2.2.2.2.2.2.2.2.2.2.2.2.2.2.2.2.2.2.2.2.2.2.2.2.2.2.2.1;have d_text_l:d.text.length<=9223372036854775807:=w.2.1.2.2.2.2.2.2.2.2.2.2.2.2.2.2.2.2.2.2.2.2.2.2.2.2.2.2.2.2.1;have hs0:=hs;obtain⟨⟨⟨hb1,hb2,hb3⟩,hk0,hn,hu⟩,hp0,hq1,hq2⟩:=hs0;have hpp:=hp0;obtain⟨hp1,hp2,hp3,hp4,hp5,hp6,hp7⟩:=hpp;have hk1:=hk0;obtain⟨⟨hr1,hr2,hr3⟩,hr4,hr5,hr6⟩:=hk1;have hd0:=hd;obtain⟨hd1,hd2,hd3,hd4⟩:=hd0;have e0:=B9_.eq_1 s d;generalize B9_ s d=z at e0 ⊢;refine gm tv98 10 [0,1,2,3] fun B2=>?_;refine Ho_ (ι:=Value×Nat) [2,3,4,5,6] [0,1,2,3] (fun ⟨u6,b7⟩=>[(7, .own 5 b7 0),(8, .val u6),(9, .int .i64 ((K_ s (I_ d.mail) d.tick).2.2.1)),(10, .int .i64 ((K_ s (I_ d.mail) d.tick).2.2.2))]) (fun ⟨u6,b7⟩=>[(4, .arr u6 8 230 OutR.pc ((K_ s (I_ d.mail) d.tick).2.1)),(5, .box b7 54 (C_.pc ((K_ s (I_ d.mail) d.tick).1)))]) (fun ⟨u6,b7⟩=>PV.wf (.agg (Mail.pc (I_ d.mail)))/\PV.wf (.tup [.agg (C_.pc ((K_ s (I_ d.mail) d.tick).1)), .val u6, .int .i64 ((K_ s (I_ d.mail) d.tick).2.2.1), .int .i64 ((K_ s (I_ d.mail) d.tick).2.2.2)])) ?_ ?_
  · refine aN [4,5,6,7,8,9,10,11] 17 mixd ?_;refine gX tv98 [0,1,2,4,5] 12 ?_;refine veL 3 [12] (by kernel_rfl) ⟨⟨_,rfl,?_⟩,⟨_,rfl,?_⟩,trivial⟩
    · refine ej rfl (eC (Eh_ d.mail) rfl fun w8=>?_);have hB8:=Q3_ d.mail;refine veL 6 [12] (by kernel_rfl) ⟨⟨_,rfl,?_⟩,⟨_,rfl,?_⟩,trivial⟩
      · refine ej rfl (ecallo 4 (D2_ s (I_ d.mail) _) rfl rfl fun u11 w10=>?_);refine gX tv98 [7,8,9,10,11] 5 ?_;refine vE 12 rfl (aL tv98 5 fun b12=>?_);refine vE 13 rfl (sA tv98 ?_);refine gX tv98 [14,15,16] 0 ?_;refine vD ?_;refine nX ⟨(u11),(b12)⟩ ?_ ⟨rfl,rfl,rfl,rfl,trivial⟩ ⟨rfl,rfl,trivial⟩;exact⟨w8,w10⟩
      refine ej rfl (aL tv98 5 fun b13=>?_);refine vE 6 rfl (ecallo 4 (D2_ s (I_ d.mail) _) rfl rfl fun u15 w14=>?_);refine gX tv98 [7,8,9,10,11] 4 ?_;refine vE 13 rfl (sA tv98 ?_);refine gX tv98 [14,15,16] 0 ?_;refine vD ?_;refine nX ⟨(u15),(b13)⟩ ?_ ⟨rfl,rfl,rfl,rfl,trivial⟩ ⟨rfl,rfl,trivial⟩;exact⟨w8,w14⟩
    refine ej rfl (aL tv98 5 fun b16=>?_);refine vE 3 rfl (eC (Eh_ d.mail) rfl fun w17=>?_);have hB17:=Q3_ d.mail;refine vE 6 rfl (ecallo 4 (D2_ s (I_ d.mail) _) rfl rfl fun u20 w19=>?_);refine gX tv98 [7,8,9,10,11] 4 ?_;refine vE 13 rfl (sA tv98 ?_);refine gX tv98 [14,15,16] 0 ?_;refine vD ?_;refine nX ⟨(u20),(b16)⟩ ?_ ⟨rfl,rfl,rfl,rfl,trivial⟩ ⟨rfl,rfl,trivial⟩;exact⟨w17,w19⟩
  generalize hr21:I_ d.mail=r;generalize hr22:K_ s r d.tick=r1;rintro⟨u6,b7⟩ ⟨w23,w24⟩;have e25:=e0.trans (Fk_ hr21.symm);have hr21:=hr21.symm;have hA25:=Q3_ d.mail
  (try rw[<- hr21] at hA25)
  have e27:=e25.trans (Fk_ hr22.symm);have hr22:=hr22.symm
  (try have hA27:=Ir_ (s:=s) (m:=r) (tick:=d.tick) (by first|assumption|exact Bn_ (by assumption)) (by (try dsimp only);first|omega|exact Ku_ _);(try rw[<- hr22] at hA27);obtain⟨hA27_0,hA27_1,hA27_2⟩:=hA27)
  (try have hA28:=Iq_ (s:=s) (m:=r) (tick:=d.tick) (by first|assumption|exact Bn_ (by assumption));(try rw[<- hr22] at hA28))
  refine gx tv98 8 ?_;refine cN e27 (fun p32 e33=>?_) (fun p36 e37=>?_)
  · refine gm tv98 12 [] fun _=>?_;subst e33;exact qr3
  refine gm tv98 16 [6] fun B39=>?_;refine so_osl (t:=33) 4 rfl rfl ?_;refine ef (Uo_ (El_ _ _ _) rfl rfl rfl rfl rfl rfl rfl fun w40=>?_);refine gm tv98 9 [] fun _=>?_;refine aN [2,3,4,7,8,9,10,11] 5 mixd ?_;refine gX tv98 [0,1] 3 ?_;refine vE 2 rfl (sA tv98 ?_);refine vT 3 rfl (sA tv98 ?_);refine gX tv98 [4] 0 ?_;refine vD ?_;refine gx tv98 2 ?_;subst e37;exact qr3
theorem E6_ (s:C_) (d:DeedR) (hs:StOk s:=by assumption) (hd:DdOk d:=by assumption):Fn Tryz.prog gb 16 [.agg (C_.pc s), .agg (DeedR.pc d)] (.tup [.agg (C_.pc ((A9_ s d).1)), .agg (U_.pc ((A9_ s d).2.1)), .int .i64 ((A9_ s d).2.2)]):=by
  refine fC Tryz.func16 tv98 Tryz.ntmps16 fun w N H hG=>?_;have s_x_book_shops_l:s.x.book.shops.length<=140737488355328:=w.1.1.1;have s_x_book_binds_l:s.x.book.binds.length<=140737488355328:=w.1.2.1.1;have s_x_stock_next_r:0<=s.x.stock.next /\ s.x.stock.next <= 18446744073709551615:=w.1.2.2.1;have s_x_stock_bytes_r:-9223372036854775808<=s.x.stock.bytes/\s.x.stock.bytes<=9223372036854775807:=w.1.2.2.2.1;have s_x_stock_rows_l:s.x.stock.rows.length<=140737488355328:=w.1.2.2.2.2.1.1;have s_x_notes_total_r:0<=s.x.notes.total/\s.x.notes.total<=18446744073709551615:=w.1.2.2.2.2.2.2.2.2.2.2.2.2.2.2.2.2.2.2.2.2.2.2.2.2.2.2.2.2.2.2.2.2.2.2.2.2.2.1;have s_x_notes_kept_l:s.x.notes.kept.length<=140737488355328:=w.1.2.2.2.2.2.2.2.2.2.2.2.2.2.2.2.2.2.2.2.2.2.2.2.2.2.2.2.2.2.2.2.2.2.2.2.2.2.2.1.1;have s_x_seen_e0_r:0<=s.x.seen.e0/\s.x.seen.e0<=18446744073709551615:=w.1.2.2.2.2.2.2.2.2.2.2.2.2.2.2.2.2.2.2.2.2.2.2.2.2.2.2.2.2.2.2.2.2.2.2.2.2.2.2.2.1;have s_x_seen_e1_r:0<=s.x.seen.e1/\s.x.seen.e1<=18446744073709551615:=w.1.2.2.2.2.2.2.2.2.2.2.2.2.2.2.2.2.2.2.2.2.2.2.2.2.2.2.2.2.2.2.2.2.2.2.2.2.2.2.2.2.1;have s_x_seen_e2_r:0<=s.x.seen.e2/\s.x.seen.e2<=18446744073709551615:=w.1.2.2.2.2.2.2.2.2.2.2.2.2.2.2.2.2.2.2.2.2.2.2.2.2.2.2.2.2.2.2.2.2.2.2.2.2.2.2.2.2.2.1;have s_x_seen_e3_r:0<=s.x.seen.e3/\s.x.seen.e3<=18446744073709551615:=w.1.2.2.2.2.2.2.2.2.2.2.2.2.2.2.2.2.2.2.2.2.2.2.2.2.2.2.2.2.2.2.2.2.2.2.2.2.2.2.2.2.2.2.1;have s_x_seen_e4_r:0<=s.x.seen.e4/\s.x.seen.e4<=18446744073709551615:=w.1.2.2.2.2.2.2.2.2.2.2.2.2.2.2.2.2.2.2.2.2.2.2.2.2.2.2.2.2.2.2.2.2.2.2.2.2.2.2.2.2.2.2.2.1;have s_x_seen_e5_r:0<=s.x.seen.e5/\s.x.seen.e5<=18446744073709551615:=w.1.2.2.2.2.2.2.2.2.2.2.2.2.2.2.2.2.2.2.2.2.2.2.2.2.2.2.2.2.2.2.2.2.2.2.2.2.2.2.2.2.2.2.2.2.1;have s_x_seen_e6_r:0<=s.x.seen.e6/\s.x.seen.e6<=18446744073709551615:=w.1.2.2.2.2.2.2.2.2.2.2.2.2.2.2.2.2.2.2.2.2.2.2.2.2.2.2.2.2.2.2.2.2.2.2.2.2.2.2.2.2.2.2.2.2.2.1;have s_x_seen_e7_r:0<=s.x.seen.e7/\s.x.seen.e7<=18446744073709551615:=w.1.2.2.2.2.2.2.2.2.2.2.2.2.2.2.2.2.2.2.2.2.2.2.2.2.2.2.2.2.2.2.2.2.2.2.2.2.2.2.2.2.2.2.2.2.2.2.1;have s_x_seen_e8_r:0<=s.x.seen.e8/\s.x.seen.e8<=18446744073709551615:=w.1.2.2.2.2.2.2.2.2.2.2.2.2.2.2.2.2.2.2.2.2.2.2.2.2.2.2.2.2.2.2.2.2.2.2.2.2.2.2.2.2.2.2.2.2.2.2.2.1;have s_x_seen_e9_r:0<=s.x.seen.e9/\s.x.seen.e9<=18446744073709551615:=w.1.2.2.2.2.2.2.2.2.2.2.2.2.2.2.2.2.2.2.2.2.2.2.2.2.2.2.2.2.2.2.2.2.2.2.2.2.2.2.2.2.2.2.2.2.2.2.2.2.1;have s_x_seen_e10_r:0<=s.x.seen.e10/\s.x.seen.e10<=18446744073709551615:=w.1.2.2.2.2.2.2.2.2.2.2.2.2.2.2.2.2.2.2.2.2.2.2.2.2.2.2.2.2.2.2.2.2.2.2.2.2.2.2.2.2.2.2.2.2.2.2.2.2.2.1;have s_x_seen_e11_r:0<=s.x.seen.e11/\s.x.seen.e11<=18446744073709551615:=w.1.2.2.2.2.2.2.2.2.2.2.2.2.2.2.2.2.2.2.2.2.2.2.2.2.2.2.2.2.2.2.2.2.2.2.2.2.2.2.2.2.2.2.2.2.2.2.2.2.2.2.1;have s_x_seen_e12_r:0<=s.x.seen.e12/\s.x.seen.e12<=18446744073709551615:=w.1.2.2.2.2.2.2.2.2.2.2.2.2.2.2.2.2.2.2.2.2.2.2.2.2.2.2.2.2.2.2.2.2.2.2.2.2.2.2.2.2.2.2.2.2.2.2.2.2.2.2.2.1;have s_x_seen_e13_r:0<=s.x.seen.e13/\s.x.seen.e13<=18446744073709551615:=w.1.2.2.2.2.2.2.2.2.2.2.2.2.2.2.2.2.2.2.2.2.2.2.2.2.2.2.2.2.2.2.2.2.2.2.2.2.2.2.2.2.2.2.2.2.2.2.2.2.2.2.2.2.1;have s_x_seen_e14_r:0<=s.x.seen.e14/\s.x.seen.e14<=18446744073709551615:=w.1.2.2.2.2.2.2.2.2.2.2.2.2.2.2.2.2.2.2.2.2.2.2.2.2.2.2.2.2.2.2.2.2.2.2.2.2.2.2.2.2.2.2.2.2.2.2.2.2.2.2.2.2.2.1;have s_x_seen_e15_r:0<=s.x.seen.e15/\s.x.seen.e15<=18446744073709551615:=w.1.2.2.2.2.2.2.2.2.2.2.2.2.2.2.2.2.2.2.2.2.2.2.2.2.2.2.2.2.2.2.2.2.2.2.2.2.2.2.2.2.2.2.2.2.2.2.2.2.2.2.2.2.2.2.1;have s_policy_work_r:-9223372036854775808<=s.policy.work/\s.policy.work<=9223372036854775807:=w.1.2.2.2.2.2.2.2.2.2.2.2.2.2.2.2.2.2.2.2.2.2.2.2.2.2.2.2.2.2.2.2.2.2.2.2.2.2.2.2.2.2.2.2.2.2.2.2.2.2.2.2.2.2.2.2.2.2.2.2.2.2.2.2.2.2.2.2.2.2.2.2.1;have s_policy_give_r:-9223372036854775808<=s.policy.give/\s.policy.give<=9223372036854775807:=w.1.2.2.2.2.2.2.2.2.2.2.2.2.2.2.2.2.2.2.2.2.2.2.2.2.2.2.2.2.2.2.2.2.2.2.2.2.2.2.2.2.2.2.2.2.2.2.2.2.2.2.2.2.2.2.2.2.2.2.2.2.2.2.2.2.2.2.2.2.2.2.2.2.1;have s_policy_places_l:s.policy.places.length<=140737488355328:=w.1.2.2.2.2.2.2.2.2.2.2.2.2.2.2.2.2.2.2.2.2.2.2.2.2.2.2.2.2.2.2.2.2.2.2.2.2.2.2.2.2.2.2.2.2.2.2.2.2.2.2.2.2.2.2.2.2.2.2.2.2.2.2.2.2.2.2.2.2.2.2.2.2.2.1.1;have s_policy_slots_l:s.policy.slots.length<=140737488355328:=w.1.2.2.2.2.2.2.2.2.2.2.2.2.2.2.2.2.2.2.2.2.2.2.2.2.2.2.2.2.2.2.2.2.2.2.2.2.2.2.2.2.2.2.2.2.2.2.2.2.2.2.2.2.2.2.2.2.2.2.2.2.2.2.2.2.2.2.2.2.2.2.2.2.2.2.1.1;have s_policy_grants_l:s.policy.grants.length<=140737488355328:=w.1.2.2.2.2.2.2.2.2.2.2.2.2.2.2.2.2.2.2.2.2.2.2.2.2.2.2.2.2.2.2.2.2.2.2.2.2.2.2.2.2.2.2.2.2.2.2.2.2.2.2.2.2.2.2.2.2.2.2.2.2.2.2.2.2.2.2.2.2.2.2.2.2.2.2.2.1.1;have s_place_r:-9223372036854775808<=s.place/\s.place<=9223372036854775807:=w.1.2.2.2.2.2.2.2.2.2.2.2.2.2.2.2.2.2.2.2.2.2.2.2.2.2.2.2.2.2.2.2.2.2.2.2.2.2.2.2.2.2.2.2.2.2.2.2.2.2.2.2.2.2.2.2.2.2.2.2.2.2.2.2.2.2.2.2.2.2.2.2.2.2.2.2.2.1;have d_kind_r:0<=d.kind/\d.kind<=255:=w.2.1.1;have d_tick_r:0<=d.tick/\d.tick<=18446744073709551615:=w.2.1.2.1;have d_shop_name_l:d.shop.name.length<=9223372036854775807:=w.2.1.2.2.1;have d_shop_sort_r:0<=d.shop.sort/\d.shop.sort<=255:=w.2.1.2.2.2.1;have d_shop_to_l:d.shop.to'.length<=9223372036854775807:=w.2.1.2.2.2.2.1;have d_queue_name_l:d.queue.name.length<=9223372036854775807:=w.2.1.2.2.2.2.2.1;have d_queue_most_r:0<=d.queue.most/\d.queue.most<=18446744073709551615:=w.2.1.2.2.2.2.2.2.1;have d_queue_life_r:0<=d.queue.life/\d.queue.life<=18446744073709551615:=w.2.1.2.2.2.2.2.2.2.1;have d_queue_dead_l:d.queue.dead.length<=9223372036854775807:=w.2.1.2.2.2.2.2.2.2.2.1;have d_bind_shop_l:d.bind.shop.length<=9223372036854775807:=w.2.1.2.2.2.2.2.2.2.2.2.1;have d_bind_to_l:d.bind.to'.length<=9223372036854775807:=w.2.1.2.2.2.2.2.2.2.2.2.2.1;have d_bind_key_l:d.bind.key.length<=9223372036854775807:=w.2.1.2.2.2.2.2.2.2.2.2.2.2.2.1;have d_bind_want_l:d.bind.want.length<=140737488355328:=w.2.1.2.2.2.2.2.2.2.2.2.2.2.2.2.1.1;have d_name_l:d.name.length<=9223372036854775807:=w.2.1.2.2.2.2.2.2.2.2.2.2.2.2.2.2.2.1;have d_id_r:0<=d.id/\d.id<=18446744073709551615:=w.2.1.2.2.2.2.2.2.2.2.2.2.2.2.2.2.2.2.1;have d_how_r:0<=d.how/\d.how<=255:=w.2.1.2.2.2.2.2.2.2.2.2.2.2.2.2.2.2.2.2.1;have d_frm_r:0<=d.frm/\d.frm<=255:=w.2.1.2.2.2.2.2.2.2.2.2.2.2.2.2.2.2.2.2.2.1;have d_code_r:0<=d.code/\d.code<=255:=w.2.1.2.2.2.2.2.2.2.2.2.2.2.2.2.2.2.2.2.2.2.1;have d_number_r:0<=d.number/\d.number<=18446744073709551615:=w.2.1.2.2.2.2.2.2.2.2.2.2.2.2.2.2.2.2.2.2.2.2.1;have d_mail_id_r:0<=d.mail.id/\d.mail.id<=18446744073709551615:=w.2.1.2.2.2.2.2.2.2.2.2.2.2.2.2.2.2.2.2.2.2.2.2.1;have d_mail_shop_l:d.mail.shop.length<=9223372036854775807:=w.2.1.2.2.2.2.2.2.2.2.2.2.2.2.2.2.2.2.2.2.2.2.2.2.1;have d_mail_key_l:d.mail.key.length<=9223372036854775807:=w.2.1.2.2.2.2.2.2.2.2.2.2.2.2.2.2.2.2.2.2.2.2.2.2.2.1;have d_mail_head_l:d.mail.head.length<=140737488355328:=w.2.1.2.2.2.2.2.2.2.2.2.2.2.2.2.2.2.2.2.2.2.2.2.2.2.2.1.1;have d_mail_body_l:d.mail.body.length<=9223372036854775807:=w.2.1.2.2.2.2.2.2.2.2.2.2.2.2.2.2.2.2.2.2.2.2.2.2.2.2.2.1;have d_mail_due_r:0<=d.mail.due/\d.mail.due<=18446744073709551615:=w.2.1.2.2.2.2.2.2.2.2.2.2.2.2.2.2.2.2.2.2.2.2.2.2.2.2.2.2.1;have d_mail_hops_r:0<=d.mail.hops/\d.mail.hops<=255:=w.2.1.2.2.2.2.2.2.2.2.2.2.2.2.2.2.2.2.2.2.2.2.2.2.2.2.2.2.2.1;have d_text_l:d.text.length<=9223372036854775807:=w.2.1.2.2.2.2.2.2.2.2.2.2.2.2.2.2.2.2.2.2.2.2.2.2.2.2.2.2.2.2.1;have hs0:=hs;obtain⟨⟨⟨hb1,hb2,hb3⟩,hk0,hn,hu⟩,hp0,hq1,hq2⟩:=hs0;have hpp:=hp0;obtain⟨hp1,hp2,hp3,hp4,hp5,hp6,hp7⟩:=hpp;have hk1:=hk0;obtain⟨⟨hr1,hr2,hr3⟩,hr4,hr5,hr6⟩:=hk1;have hd0:=hd;obtain⟨hd1,hd2,hd3,hd4⟩:=hd0;have e0:=A9_.eq_1 s d;generalize A9_ s d=z at e0 ⊢;refine gm tv98 13 [0,1,2,3] fun B2=>?_;refine call (Ot_ _) rfl rfl fun w6=>?_;have :=Th_ d;refine gx tv98 9 ?_;refine cN e0 (fun p9 e10=>?_) (fun p13 e14=>?_)
  · refine gm tv98 12 [] fun _=>?_;subst e10;exact qr3
  refine gm tv98 14 [4,5] fun B16=>?_;obtain⟨o,e_o,q_o⟩:=Zg_ e14;refine Ho_ (ι:=Int×C_×U_) [2,4,5,6,8,9] [1,2,3,4] (fun ⟨e_1,x,x1⟩=>[(10, .int .i64 e_1)]) (fun ⟨e_1,x,x1⟩=>[(0, .box (B2 0) 54 (C_.pc x)),(5, .box (B16 1) 77 (U_.pc x1))]) (fun ⟨e_1,x,x1⟩=>o=(e_1,x,x1)) ?_ ?_
  · refine gx tv98 8 ?_;obtain⟨o1,e_o1,q_o1⟩:=Hh_ e_o;refine Ho_ (ι:=Bool) [2,3,4,5,6,8,9,10,21] [0,1,2,3,4,5] (fun v=>[(28, .bool v)]) (fun v=>[]) (fun v=>o1=v) ?_ ?_
    · refine gx tv98 6 ?_;refine cD e_o1 (fun p19 e20=>?_) (fun p21 e22=>?_)
      · refine gx tv98 1 ?_;refine nX (decide (d.kind=2)) ?_ ⟨rfl,trivial⟩ trivial;exact e20
      refine gx tv98 4 ?_;refine nX (decide (d.kind=3)) ?_ ⟨rfl,trivial⟩ trivial;exact e22
    rintro v hp23;have e24:=Kd_ q_o1 hp23;refine gx tv98 1 ?_;refine cE e24 (fun h25 e26=>?_) (fun h25 e31=>?_)
    · refine gx tv98 3 ?_;refine cV e26 R18_ (Jj_ _ _) rfl fun r hr27 e29 w28=>?_;refine gm tv98 7 [] fun _=>?_;refine nX ⟨r.2,r.1,(⟨(⟨(⟨0,[],[],[],[],0,0⟩:Mail),false,false⟩:ItemR),0,0⟩:U_)⟩ ?_ ⟨rfl,trivial⟩ ⟨rfl,rfl,trivial⟩;exact e29
    refine gx tv98 6 ?_;refine cD e31 (fun p33 e34=>?_) (fun p39 e40=>?_)
    · refine gx tv98 3 ?_;refine cV e34 R22_ (Lh_ _ _) rfl fun r1 hr35 e37 w36=>?_;refine gm tv98 9 [] fun _=>?_;refine nX ⟨r1.2.2,r1.1,r1.2.1⟩ ?_ ⟨rfl,trivial⟩ ⟨rfl,rfl,trivial⟩;exact e37
    refine gx tv98 6 ?_;refine cD e40 (fun p42 e43=>?_) (fun p48 e49=>?_)
    · refine gx tv98 3 ?_;refine cV e43 R22_ (Kq_ _ _) rfl fun r2 hr44 e46 w45=>?_;refine gm tv98 9 [] fun _=>?_;refine nX ⟨r2.2.2,r2.1,r2.2.1⟩ ?_ ⟨rfl,trivial⟩ ⟨rfl,rfl,trivial⟩;exact e46
    refine gx tv98 6 ?_;refine cD e49 (fun p51 e52=>?_) (fun p57 e58=>?_)
    · refine gx tv98 3 ?_;refine cV e52 R22_ (Jk_ _ _) rfl fun r3 hr53 e55 w54=>?_;refine gm tv98 9 [] fun _=>?_;refine nX ⟨r3.2.2,r3.1,r3.2.1⟩ ?_ ⟨rfl,trivial⟩ ⟨rfl,rfl,trivial⟩;exact e55
    refine gx tv98 6 ?_;refine cD e58 (fun p60 e61=>?_) (fun p66 e67=>?_)
    · refine gx tv98 4 ?_;refine cV e61 R23_ (Kp_ _ _) rfl fun r4 hr62 e64 w63=>?_;refine gm tv98 7 [] fun _=>?_;refine nX ⟨0,r4.1,r4.2⟩ ?_ ⟨rfl,trivial⟩ ⟨rfl,rfl,trivial⟩;exact e64
    refine gx tv98 6 ?_;refine cD e67 (fun p69 e70=>?_) (fun p75 e76=>?_)
    · refine gx tv98 3 ?_;refine cV e70 R22_ (Kr_ _ _) rfl fun r5 hr71 e73 w72=>?_;refine gm tv98 9 [] fun _=>?_;refine nX ⟨r5.2.2,r5.1,r5.2.1⟩ ?_ ⟨rfl,trivial⟩ ⟨rfl,rfl,trivial⟩;exact e73
    refine gx tv98 6 ?_;refine cD e76 (fun p78 e79=>?_) (fun p90 e91=>?_)
    · refine gx tv98 5 ?_;refine cV e79 R6_ (Ko_ _) rfl fun r6 hr80 e82 w81=>?_;have hA82:=U1_ (s:=s.x.stock) (by first|assumption|exact StOk.stk (by assumption))
      (try rw[<- hr80] at hA82)
      refine gm tv98 9 [] fun _=>?_;refine cV e82 R21_ (D1_ (⟨(⟨s.x.book,r6,s.x.notes,s.x.seen,s.x.spent⟩:A8_),s.policy,s.place⟩:C_) _ _ _) rfl fun r7 hr85 e87 w86=>?_
      (try have hA87:=Gx_ (s:=(⟨(⟨s.x.book,r6,s.x.notes,s.x.seen,s.x.spent⟩:A8_),s.policy,s.place⟩:C_)) (t:=d.tick) (k:=3) (x:=[]) (by first|assumption|exact Bn_ (by assumption));(try rw[<- hr85] at hA87);obtain⟨hA87_0,hA87_1⟩:=hA87)
      refine gm tv98 3 [] fun _=>?_;refine nX ⟨0,r7,(⟨(⟨(⟨0,[],[],[],[],0,0⟩:Mail),false,false⟩:ItemR),0,0⟩:U_)⟩ ?_ ⟨rfl,trivial⟩ ⟨rfl,rfl,trivial⟩;exact e87
    refine gx tv98 6 ?_;refine cD e91 (fun p93 e94=>?_) (fun p99 e100=>?_)
    · refine gx tv98 11 ?_;refine cV e94 R9_ (Fx_ _ (⟨d.tick,d.code,d.text⟩:NoteR)) rfl fun r8 hr95 e97 w96=>?_;refine gm tv98 9 [] fun _=>?_;refine nX ⟨r8.2,(⟨(⟨s.x.book,s.x.stock,r8.1,s.x.seen,s.x.spent⟩:A8_),s.policy,s.place⟩:C_),(⟨(⟨(⟨0,[],[],[],[],0,0⟩:Mail),false,false⟩:ItemR),0,0⟩:U_)⟩ ?_ ⟨rfl,trivial⟩ ⟨rfl,rfl,trivial⟩;exact e97
    refine gx tv98 3 ?_;refine cV e100 R18_ (J3_ _ _) rfl fun r9 hr101 e103 w102=>?_;refine gm tv98 7 [] fun _=>?_;refine nX ⟨r9.2,r9.1,(⟨(⟨(⟨0,[],[],[],[],0,0⟩:Mail),false,false⟩:ItemR),0,0⟩:U_)⟩ ?_ ⟨rfl,trivial⟩ ⟨rfl,rfl,trivial⟩;exact e103
  rintro⟨e_1,x,x1⟩ hp105;have e106:=lt3_fin q_o hp105;refine gx tv98 8 ?_;refine cN e106 (fun p109 e110=>?_) (fun p113 e114=>?_)
  · refine gm tv98 12 [] fun _=>?_;subst e110;exact qr3
  refine gx tv98 3 ?_;refine aN [2,3,6,7,8,9,10,11] 5 mixd ?_;refine gX tv98 [0,1] 3 ?_;refine vE 2 rfl (sA tv98 ?_);refine vT 3 rfl (sA tv98 ?_);refine gX tv98 [4] 0 ?_;refine vD ?_;refine gx tv98 2 ?_;subst e114;exact qr3
theorem ag90:Ag Tryz.prog 90 false:=fun w=>by kernel_rfl
theorem eqg92:Tryz.prog.eqGuardType Tryz.prog.depth 92=false:=by kernel_rfl
theorem veq92 (p q:LabelR):∀ (H:Hp) (vs us:List Value),Sims H (LabelR.pc p) vs->Sims H (LabelR.pc q) us->EqV Tryz.prog 10000 92 (.agg vs.toArray) (.agg us.toArray) (decide (p=q)):=by
  intro H vs us hv hu;obtain⟨_,_,rfl,v0,v_0⟩:=hv.inv_cons;obtain⟨_,_,rfl,v1,v_1⟩:=v_0.inv_cons
  cases v_1.inv_nil
  cases v0.inv_int.1;cases v1.inv_int.1
  obtain⟨_,_,rfl,u0,u_0⟩:=hu.inv_cons;obtain⟨_,_,rfl,u1,u_1⟩:=u_0.inv_cons
  cases u_1.inv_nil
  cases u0.inv_int.1;cases u1.inv_int.1
  exact EqV.to' (Pt_ Tryz.underlying92 (by kernel_rfl) (Ll_ (by decide) ag5 rfl rfl (J9_ Tryz.underlying5) (Ll_ (by decide) ag90 rfl rfl (J9_ Tryz.underlying90) Pr_))) (by obtain⟨a0,a1⟩:=p;obtain⟨b0,b1⟩:=q;rw[Bool.eq_iff_iff];simp)
abbrev ty69:TI:=⟨.slc 148,1,24,[.sl PlaceR.pc []]⟩
abbrev ty70:TI:=⟨.slc 149,1,24,[.sl GrantR.pc []]⟩
abbrev ty72:TI:=⟨.agg [(0,1),(1,1),(2,1),(3,1),(4,1)],5,88,[.int .i64 0, .int .i64 0, .sl PlaceR.pc [], .sl i64c [], .sl GrantR.pc []]⟩
abbrev ty148:TI:=⟨.agg [(0,1),(1,2),(3,1),(4,1)],5,40,[.str [], .int .u8 0, .int .u32 0, .int .i64 0, .int .u64 0]⟩
abbrev ty149:TI:=⟨.agg [(0,1),(1,1),(2,1)],3,24,[.int .i64 0, .int .i64 0, .int .i64 0]⟩
def tbv99:Tb:=[(3,ty3),(5,ty5),(9,ty9),(22,ty22),(23,ty23),(24,ty24),(26,ty26),(36,ty36),(69,ty69),(70,ty70),(72,ty72),(90,ty90),(92,ty92),(94,ty94),(148,ty148),(149,ty149)]
theorem tv99:tbB Tryz.prog tbv99=true:=by kernel_rfl
theorem O7_ (a:LabelR) (i:Int) (hi:0<=i/\i<32:=by omega):Fn Tryz.prog gb 190 [.agg (LabelR.pc a), .int .i64 i] (.bool (Qp_ a i)):=by
  refine fC Tryz.func190 tv99 Tryz.ntmps190 fun w N H hG=>?_;have a_level_r:0<=a.level/\a.level<=255:=w.1.1;have a_set__r:0<=a.set_/\a.set_<=4294967295:=w.1.2.1;have i_r:-9223372036854775808<=i/\i<=9223372036854775807:=w.2.1;have hf0:=has_fd a i (by omega);have e0:=Qp_.eq_1 a i;refine gmy tv99 18 [0] fun B2=>?_;exact rt1 rfl rfl (Y_ (fun r:Bool=> .bool r) e0 (ple rfl))
theorem Ss_ (a:LabelR) (b:LabelR):Fn Tryz.prog gb 105 [.agg (LabelR.pc a), .agg (LabelR.pc b)] (.bool (Le_ a b)):=by
  refine fC Tryz.func105 tv99 Tryz.ntmps105 fun w N H hG=>?_;have e0:=Le_.eq_1 a b;generalize Le_ a b=z at e0 ⊢;refine gm tv99 17 [0,1] fun B2=>?_;refine cD e0 (fun p5 e6=>?_) (fun p7 e8=>?_)
  · refine gx tv99 7 ?_;subst e6;exact qr1
  refine gx tv99 9 ?_;refine loop (ι:=Nat×Nat) [2,3] [0,1] (fun ⟨f,i⟩=>[(5, .int .i64 (i:Int))]) (fun ⟨f,i⟩=>[]) (fun ⟨f,i⟩=>32-i<f/\z=Hx_ a b f i) (fun ⟨f,i⟩=>f) ⟨(32-0+1),0⟩ ⟨rfl,trivial⟩ trivial ?_ ?_
  · exact⟨Nat.lt_succ_self _,e8⟩
  rintro⟨f,i⟩ ⟨hp9_1,hp9_2⟩;obtain⟨f1,rfl⟩:∃ q,f=q+1:=⟨f-1,by omega⟩;have e_f1:=hp9_2.trans (Hx_.eq_2 _ _ _ _);refine gx tv99 7 ?_;refine cD e_f1 (fun p11 e12=>?_) (fun p20 e21=>?_)
  · refine gx tv99 8 ?_;refine call (O7_ _ _) rfl rfl fun w13=>?_;refine gx tv99 3 ?_;refine callg rfl (fun hc=>(O7_ _ _)) rfl ⟨(fun hc=>hc),(fun hc=>hc),trivial⟩ rfl rfl fun _=>?_;refine gy tv99 4 ?_;refine cE e12 (fun h14 e18=>?_) (fun h14 e19=>?_)
    · have h15:=bl h14;have h16:=br h14;have h17:=C7_ h16;refine gx tv99 11 ?_;subst e18;exact qr1
    refine gy tv99 8 ?_;refine next ⟨f1,(i+1)⟩ rfl rfl ⟨rfl,trivial⟩ trivial ?_ ?_
    · (try simp only[]);omega
    exact⟨by (try simp only[]);omega,e19⟩
  refine gx tv99 11 ?_;subst e21;exact qr1
theorem St_ (p:PolicyR):Fn Tryz.prog gb 46 [.agg (PolicyR.pc p)] (.int .i64 (Je_ p)):=by
  refine fC Tryz.func46 tv99 Tryz.ntmps46 fun w N H hG=>?_;have p_places_l:p.places.length<=140737488355328:=w.1.2.2.1.1;have p_slots_l:p.slots.length<=140737488355328:=w.1.2.2.2.1.1;have p_grants_l:p.grants.length<=140737488355328:=w.1.2.2.2.2.1.1;have e0:=Je_.eq_1 p;generalize Je_ p=z at e0 ⊢;refine gmy tv99 29 [0] fun B2=>?_;refine cE e0 (fun h3 e4=>?_) (fun h3 e15=>?_)
  · refine gx tv99 7 ?_;subst e4;exact qr1
  have h5:=orl h3;have h6:=orl h5;have h7:=orl h6;have p8:=df h7;have h9:=orr h6;have p10:=df h9;have h11:=orr h5;have p12:=df h11;have h13:=orr h3;have p14:=df h13;refine gx tv99 17 ?_;refine cD e15 (fun p17 e18=>?_) (fun p19 e20=>?_)
  · refine gx tv99 7 ?_;subst e18;exact qr1
  refine gx tv99 9 ?_;refine cD e20 (fun p22 e23=>?_) (fun p24 e25=>?_)
  · refine gx tv99 7 ?_;subst e23;exact qr1
  refine gx tv99 12 ?_;refine loop (ι:=Nat) [1,3,45,46] [0] (fun k=>[(47, .int .i64 (k:Int))]) (fun k=>[]) (fun k=>k<=p.places.length/\z=Dr_ p (p.places.drop k) k) (fun k=>p.places.length-k) 0 ⟨rfl,trivial⟩ trivial ?_ ?_
  · exact⟨Nat.zero_le _,e25⟩
  rintro k ⟨hp26_1,hp26_2⟩;refine gx tv99 6 ?_;refine cn rfl (fun p28=>?_) fun p78=>?_
  · have e29:=Di_ (f:=fun zz=>Dr_ p zz k) hp26_2 (Gs_ (by omega)) (Dr_.eq_2 _ _ _ _);refine gx tv99 3 ?_;obtain⟨o,e_o,q_o⟩:=I8_ e29;refine Ho_ (ι:=Unit) [1,3,45,46,47] [0] (fun _=>[]) (fun _=>[]) (fun _=>o = .fin ()) ?_ ?_
    · have hc30:=getG (xs:=p.places) (k:=k) (by omega);refine gx tv99 4 ?_;refine q1 (qidx tv99 k rfl rfl rfl hc30 rfl rfl rfl rfl) rfl fun w31=>?_;refine gm tv99 10 [1] fun B33=>?_;refine call (r4_Name _) rfl rfl fun w34=>?_;refine gx tv99 10 ?_;refine cN e_o (fun p37 e38=>?_) (fun p41 e42=>?_)
      · refine gx tv99 14 ?_;have e39:=Gw_ q_o e38;subst e39;exact qr1
      refine gy tv99 26 ?_;refine cE e42 (fun h43 e44=>?_) (fun h43 e56=>?_)
      · refine gx tv99 13 ?_;have e45:=Gw_ q_o e44;subst e45;exact qr1
      have h46:=orl h43;have h47:=orl h46;have h48:=orl h47;have p49:=df h48;have h50:=orr h47;have p51:=df h50;have h52:=orr h46;have p53:=df h52;have h54:=orr h43;have p55:=df h54;refine gx tv99 7 ?_;refine q1 (lshi tv99 k rfl rfl rfl rfl rfl (fun _=>rfl) rfl (by omega)) rfl fun w57=>?_;refine gx tv99 5 ?_;refine loop (ι:=Nat) [1,3,5,45,46,47,80,81] [0,1] (fun k1=>[(82, .int .i64 (k1:Int))]) (fun k1=>[]) (fun k1=>k1<=(p.places.take k).length/\o=Eb_ (gt p.places k) ((p.places.take k).drop k1)) (fun k1=>(p.places.take k).length-k1) 0 ⟨rfl,trivial⟩ trivial ?_ ?_
      · exact⟨Nat.zero_le _,e56⟩
      rintro k1 ⟨hp58_1,hp58_2⟩;have hkl:(p.places.take k).length<=p.places.length:=List.length_take_le' ..;refine gx tv99 6 ?_;refine cn rfl (fun p60=>?_) fun p74=>?_
      · have e61:=Di_ (f:=fun zz=>Eb_ (gt p.places k) zz) hp58_2 (Gs_ (by omega)) (Eb_.eq_2 _ _ _);have hc62:=getG (xs:=(p.places.take k)) (k:=k1) (by omega);refine gx tv99 6 ?_;refine q1 (qidx tv99 k1 rfl rfl rfl hc62 rfl rfl rfl rfl) rfl fun w63=>?_;refine gmy tv99 17 [2] fun B65=>?_;refine q1g [93,95] rfl (fun hc=>saeq rfl rfl eqg92 (veq92 ((gt (p.places.take k) k1).label) ((gt p.places k).label))) ⟨(fun hc=>hc),(fun hc=>hc),trivial⟩ rfl rfl rfl fun _=>?_;refine gy tv99 3 ?_;refine cE e61 (fun h66 e67=>?_) (fun h66 e73=>?_)
        · refine gx tv99 16 ?_;have e68:=Gw_ q_o e67;subst e68;exact qr1
        have h69:=orl h66;have p70:=df h69;have h71:=orr h66;have p72:=df h71;refine gy tv99 7 ?_;refine next (k1+1) rfl rfl ⟨rfl,trivial⟩ trivial ?_ ?_
        · (try simp only[]);omega
        exact⟨by (try simp only[]);omega,e73⟩
      have e75:=Di_ (f:=fun zz=>Eb_ (gt p.places k) zz) hp58_2 (Gt_ (by omega)) (Eb_.eq_1 _);refine gx tv99 5 ?_;refine nX () ?_ trivial trivial;exact e75
    rintro _ hp76;have e77:=Nu_ q_o hp76;refine gy tv99 5 ?_;refine next (k+1) rfl rfl ⟨rfl,trivial⟩ trivial ?_ ?_
    · (try simp only[]);omega
    exact⟨by (try simp only[]);omega,e77⟩
  have e79:=Di_ (f:=fun zz=>Dr_ p zz k) hp26_2 (Gt_ (by omega)) (Dr_.eq_1 _ _);refine gx tv99 14 ?_;refine cD e79 (fun p81 e82=>?_) (fun p83 e84=>?_)
  · refine gx tv99 7 ?_;subst e82;exact qr1
  refine gx tv99 11 ?_;refine cD e84 (fun p86 e87=>?_) (fun p88 e89=>?_)
  · refine gx tv99 7 ?_;subst e87;exact qr1
  refine gx tv99 12 ?_;refine loop (ι:=Nat) [1,3,109,110] [0] (fun k2=>[(111, .int .i64 (k2:Int))]) (fun k2=>[]) (fun k2=>k2<=p.slots.length/\z=Da_ p (p.slots.drop k2)) (fun k2=>p.slots.length-k2) 0 ⟨rfl,trivial⟩ trivial ?_ ?_
  · exact⟨Nat.zero_le _,e89⟩
  rintro k2 ⟨hp90_1,hp90_2⟩;refine gx tv99 6 ?_;refine cn rfl (fun p92=>?_) fun p103=>?_
  · have e93:=Di_ (f:=fun zz=>Da_ p zz) hp90_2 (Gs_ (by omega)) (Da_.eq_2 _ _ _);have hc94:=getG (xs:=p.slots) (k:=k2) (by omega);refine gx tv99 6 ?_;refine q1 (qidx tv99 k2 rfl rfl rfl hc94 rfl rfl rfl rfl) rfl fun w95=>?_;refine gy tv99 15 ?_;refine cE e93 (fun h96 e97=>?_) (fun h96 e102=>?_)
    · refine gx tv99 11 ?_;subst e97;exact qr1
    have h98:=orl h96;have p99:=df h98;have h100:=orr h96;have p101:=df h100;refine gy tv99 7 ?_;refine next (k2+1) rfl rfl ⟨rfl,trivial⟩ trivial ?_ ?_
    · (try simp only[]);omega
    exact⟨by (try simp only[]);omega,e102⟩
  have e104:=Di_ (f:=fun zz=>Da_ p zz) hp90_2 (Gt_ (by omega)) (Da_.eq_1 _);refine gx tv99 14 ?_;refine cD e104 (fun p106 e107=>?_) (fun p108 e109=>?_)
  · refine gx tv99 7 ?_;subst e107;exact qr1
  refine gx tv99 12 ?_;refine loop (ι:=Nat) [1,3,128,129] [0] (fun k3=>[(130, .int .i64 (k3:Int))]) (fun k3=>[]) (fun k3=>k3<=p.grants.length/\z=Ds_ p (p.grants.drop k3) k3) (fun k3=>p.grants.length-k3) 0 ⟨rfl,trivial⟩ trivial ?_ ?_
  · exact⟨Nat.zero_le _,e109⟩
  rintro k3 ⟨hp110_1,hp110_2⟩;refine gx tv99 6 ?_;refine cn rfl (fun p112=>?_) fun p170=>?_
  · have e113:=Di_ (f:=fun zz=>Ds_ p zz k3) hp110_2 (Gs_ (by omega)) (Ds_.eq_2 _ _ _ _);refine gx tv99 3 ?_;obtain⟨o1,e_o1,q_o1⟩:=I8_ e113;refine Ho_ (ι:=Unit) [1,3,128,129,130] [0] (fun _=>[]) (fun _=>[]) (fun _=>o1 = .fin ()) ?_ ?_
    · have hc114:=getG (xs:=p.grants) (k:=k3) (by omega);refine gx tv99 4 ?_;refine q1 (qidx tv99 k3 rfl rfl rfl hc114 rfl rfl rfl rfl) rfl fun w115=>?_;refine gmy tv99 31 [1] fun B117=>?_;refine cE e_o1 (fun h118 e119=>?_) (fun h118 e131=>?_)
      · refine gx tv99 13 ?_;have e120:=Gw_ q_o1 e119;subst e120;exact qr1
      have h121:=orl h118;have h122:=orl h121;have h123:=orl h122;have p124:=df h123;have h125:=orr h122;have p126:=df h125;have h127:=orr h121;have p128:=df h127;have h129:=orr h118;have p130:=df h129;refine gx tv99 4 ?_;refine aN [2,3,4,5,6,7] 15 mixd ?_;refine gX tv99 [0,1,2,3] 11 ?_;have hc132:=getG (xs:=p.places) (k:=((gt p.grants k3).frm).toNat) (by omega);refine vq 4 (qidx tv99 ((gt p.grants k3).frm).toNat rfl rfl (by omega) hc132 rfl rfl rfl rfl) rfl (by kernel_rfl) rfl fun w133=>?_;refine gX tv99 [5,6,7,8,9,10] 4 ?_;have hc134:=getG (xs:=p.places) (k:=((gt p.grants k3).to').toNat) (by omega);refine vq 11 (qidx tv99 ((gt p.grants k3).to').toNat rfl rfl (by omega) hc134 rfl rfl rfl rfl) rfl (by kernel_rfl) rfl fun w135=>?_;refine gX tv99 [12,13] 1 ?_;refine vC 14 rfl (Ss_ _ _) rfl fun w136=>?_;refine vD ?_;refine gx tv99 1 ?_;refine cE e131 (fun h137 e138=>?_) (fun h137 e140=>?_)
      · refine gx tv99 13 ?_;have e139:=Gw_ q_o1 e138;subst e139;exact qr1
      refine gy tv99 15 ?_;refine cE e140 (fun h141 e142=>?_) (fun h141 e148=>?_)
      · refine gx tv99 13 ?_;have e143:=Gw_ q_o1 e142;subst e143;exact qr1
      have h144:=orl h141;have p145:=df h144;have h146:=orr h141;have p147:=df h146;refine gx tv99 7 ?_;refine q1 (lshi tv99 k3 rfl rfl rfl rfl rfl (fun _=>rfl) rfl (by omega)) rfl fun w149=>?_;refine gx tv99 5 ?_;refine loop (ι:=Nat) [1,3,12,128,129,130,181,182] [0,1] (fun k4=>[(183, .int .i64 (k4:Int))]) (fun k4=>[]) (fun k4=>k4<=(p.grants.take k3).length/\o1=Ec_ (gt p.grants k3) ((p.grants.take k3).drop k4)) (fun k4=>(p.grants.take k3).length-k4) 0 ⟨rfl,trivial⟩ trivial ?_ ?_
      · exact⟨Nat.zero_le _,e148⟩
      rintro k4 ⟨hp150_1,hp150_2⟩;have hkl:(p.grants.take k3).length<=p.grants.length:=List.length_take_le' ..;refine gx tv99 6 ?_;refine cn rfl (fun p152=>?_) fun p166=>?_
      · have e153:=Di_ (f:=fun zz=>Ec_ (gt p.grants k3) zz) hp150_2 (Gs_ (by omega)) (Ec_.eq_2 _ _ _);have hc154:=getG (xs:=(p.grants.take k3)) (k:=k4) (by omega);refine gx tv99 6 ?_;refine q1 (qidx tv99 k4 rfl rfl rfl hc154 rfl rfl rfl rfl) rfl fun w155=>?_;refine gmy tv99 21 [2] fun B157=>?_;refine cE e153 (fun h158 e163=>?_) (fun h158 e165=>?_)
        · have h159:=bl h158;have p160:=dt h159;have h161:=br h158;have p162:=dt h161;refine gx tv99 16 ?_;have e164:=Gw_ q_o1 e163;subst e164;exact qr1
        refine gy tv99 7 ?_;refine next (k4+1) rfl rfl ⟨rfl,trivial⟩ trivial ?_ ?_
        · (try simp only[]);omega
        exact⟨by (try simp only[]);omega,e165⟩
      have e167:=Di_ (f:=fun zz=>Ec_ (gt p.grants k3) zz) hp150_2 (Gt_ (by omega)) (Ec_.eq_1 _);refine gx tv99 5 ?_;refine nX () ?_ trivial trivial;exact e167
    rintro _ hp168;have e169:=Nu_ q_o1 hp168;refine gy tv99 5 ?_;refine next (k3+1) rfl rfl ⟨rfl,trivial⟩ trivial ?_ ?_
    · (try simp only[]);omega
    exact⟨by (try simp only[]);omega,e169⟩
  have e171:=Di_ (f:=fun zz=>Ds_ p zz k3) hp110_2 (Gt_ (by omega)) (Ds_.eq_1 _ _);refine gx tv99 12 ?_;refine loop (ι:=Nat×Nat) [1,3] [0] (fun ⟨f,i⟩=>[(15, .int .i64 (i:Int))]) (fun ⟨f,i⟩=>[]) (fun ⟨f,i⟩=>p.places.length-i<f/\z=Hy_ p f i) (fun ⟨f,i⟩=>f) ⟨(p.places.length-0+1),0⟩ ⟨rfl,trivial⟩ trivial ?_ ?_
  · exact⟨Nat.lt_succ_self _,e171⟩
  rintro⟨f,i⟩ ⟨hp172_1,hp172_2⟩;obtain⟨f1,rfl⟩:∃ q,f=q+1:=⟨f-1,by omega⟩;have e_f1:=hp172_2.trans (Hy_.eq_2 _ _ _);refine gx tv99 8 ?_;refine cD e_f1 (fun p174 e175=>?_) (fun p192 e193=>?_)
  · refine gx tv99 3 ?_;obtain⟨o2,e_o2,q_o2⟩:=I8_ e175;refine Ho_ (ι:=Unit) [1,3,15] [0] (fun _=>[]) (fun _=>[]) (fun _=>o2 = .fin ()) ?_ ?_
    · refine gx tv99 16 ?_;refine loop (ι:=Nat×Bool) [1,3,15,207,208] [0] (fun ⟨k5,has⟩=>[(209, .int .i64 (k5:Int)),(16, .bool has)]) (fun ⟨k5,has⟩=>[]) (fun ⟨k5,has⟩=>k5<=p.slots.length/\o2=E0_ i (p.slots.drop k5) has) (fun ⟨k5,has⟩=>p.slots.length-k5) ⟨0,false⟩ ⟨rfl,rfl,trivial⟩ trivial ?_ ?_
      · exact⟨Nat.zero_le _,e_o2⟩
      rintro⟨k5,has⟩ ⟨hp176_1,hp176_2⟩;refine gx tv99 6 ?_;refine cn rfl (fun p178=>?_) fun p182=>?_
      · have e179:=Di_ (f:=fun zz=>E0_ i zz has) hp176_2 (Gs_ (by omega)) (E0_.eq_2 _ _ _ _);have hc180:=getG (xs:=p.slots) (k:=k5) (by omega);refine gx tv99 6 ?_;refine q1 (qidx tv99 k5 rfl rfl rfl hc180 rfl rfl rfl rfl) rfl fun w181=>?_;refine gy tv99 19 ?_;refine next ⟨(k5+1),(has||(decide ((gt p.slots k5)=(i:Int))))⟩ rfl rfl ⟨rfl,rfl,trivial⟩ trivial ?_ ?_
        · (try simp only[]);omega
        exact⟨by (try simp only[]);omega,e179⟩
      have e183:=Di_ (f:=fun zz=>E0_ i zz has) hp176_2 (Gt_ (by omega)) (E0_.eq_1 _ _);refine gx tv99 11 ?_;refine cE e183 (fun h184 e186=>?_) (fun h184 e189=>?_)
      · have h185:=C7_ h184;refine gx tv99 12 ?_;have e187:=Gw_ q_o2 e186;subst e187;exact qr1
      have h188:=Dd_ h184;refine gx tv99 2 ?_;refine nX () ?_ trivial trivial;exact e189
    rintro _ hp190;have e191:=Nu_ q_o2 hp190;refine gy tv99 6 ?_;refine next ⟨f1,(i+1)⟩ rfl rfl ⟨rfl,trivial⟩ trivial ?_ ?_
    · (try simp only[]);omega
    exact⟨by (try simp only[]);omega,e191⟩
  refine gx tv99 11 ?_;subst e193;exact qr1
theorem Su_ (p:PolicyR) (tick:Int) (hs:0<p.slots.length:=by omega):Fn Tryz.prog gb 14 [.agg (PolicyR.pc p), .int .u64 tick] (.int .u64 (Jf_ p tick)):=by
  refine fC Tryz.func14 tv99 Tryz.ntmps14 fun w N H hG=>?_;have p_work_r:-9223372036854775808<=p.work/\p.work<=9223372036854775807:=w.1.1;have p_give_r:-9223372036854775808<=p.give/\p.give<=9223372036854775807:=w.1.2.1;have p_places_l:p.places.length<=140737488355328:=w.1.2.2.1.1;have p_slots_l:p.slots.length<=140737488355328:=w.1.2.2.2.1.1;have p_grants_l:p.grants.length<=140737488355328:=w.1.2.2.2.2.1.1;have tick_r:0<=tick/\tick<=18446744073709551615:=w.2.1;have hm1:=Int.emod_nonneg tick (show (p.slots.length:Int)≠0 by omega);have hm2:=Int.emod_lt_of_pos tick (show (0:Int)<(p.slots.length:Int) by omega)
  skip
  have e0:=Jf_.eq_1 p tick;refine gm tv99 11 [0] fun B2=>?_;refine q1 (qconv tv99 rfl rfl rfl rfl (O8_ (by omega))) rfl fun w3=>?_;have :=F1_ (tick-(tick%(p.slots.length:Int)));refine gy tv99 16 ?_;exact rt1 rfl rfl (Y_ (fun r:Int=> .int .u64 r) e0 (ple rfl))
theorem Y0_ (p:PolicyR) (n:Int) (hs:0<p.places.length:=by omega):Fn Tryz.prog gb 12 [.agg (PolicyR.pc p), .int .u8 n] (.int .i64 (J7_ p n)):=by
  refine fC Tryz.func12 tv99 Tryz.ntmps12 fun w N H hG=>?_;have p_places_l:p.places.length<=140737488355328:=w.1.2.2.1.1;have p_slots_l:p.slots.length<=140737488355328:=w.1.2.2.2.1.1;have p_grants_l:p.grants.length<=140737488355328:=w.1.2.2.2.2.1.1;have n_r:0<=n/\n<=255:=w.2.1;have e0:=J7_.eq_1 p n;refine gmy tv99 18 [0] fun B2=>?_;exact rt1 rfl rfl (Y_ (fun r:Int=> .int .i64 r) e0 (ple rfl))
theorem Rn_ (p:PolicyR):Fn Tryz.prog gb 45 [.agg (PolicyR.pc p)] (.bool (H8_ p)):=by
  refine fC Tryz.func45 tv99 Tryz.ntmps45 fun w N H hG=>?_;have p_places_l:p.places.length<=140737488355328:=w.1.2.2.1.1;have p_slots_l:p.slots.length<=140737488355328:=w.1.2.2.2.1.1;have p_grants_l:p.grants.length<=140737488355328:=w.1.2.2.2.2.1.1;have e0:=H8_.eq_1 p;generalize H8_ p=z at e0 ⊢;refine gmy tv99 27 [0] fun B2=>?_;refine cE e0 (fun h3 e4=>?_) (fun h3 e12=>?_)
  · refine gx tv99 7 ?_;subst e4;exact qr1
  have h5:=orl h3;have h6:=orl h5;have p7:=df h6;have h8:=orr h5;have p9:=df h8;have h10:=orr h3;have p11:=df h10;refine gx tv99 12 ?_;refine loop (ι:=Nat) [22,23] [0] (fun k=>[(24, .int .i64 (k:Int))]) (fun k=>[]) (fun k=>k<=p.places.length/\z=Ex_ (p.places.drop k)) (fun k=>p.places.length-k) 0 ⟨rfl,trivial⟩ trivial ?_ ?_
  · exact⟨Nat.zero_le _,e12⟩
  rintro k ⟨hp13_1,hp13_2⟩;refine gx tv99 6 ?_;refine cn rfl (fun p15=>?_) fun p26=>?_
  · have e16:=Di_ (f:=fun zz=>Ex_ zz) hp13_2 (Gs_ (by omega)) (Ex_.eq_2 _ _);have hc17:=getG (xs:=p.places) (k:=k) (by omega);refine gx tv99 6 ?_;refine q1 (qidx tv99 k rfl rfl rfl hc17 rfl rfl rfl rfl) rfl fun w18=>?_;refine gm tv99 13 [1] fun B20=>?_;refine cD e16 (fun p22 e23=>?_) (fun p24 e25=>?_)
    · refine gx tv99 11 ?_;subst e23;exact qr1
    refine gy tv99 7 ?_;refine next (k+1) rfl rfl ⟨rfl,trivial⟩ trivial ?_ ?_
    · (try simp only[]);omega
    exact⟨by (try simp only[]);omega,e25⟩
  have e27:=Di_ (f:=fun zz=>Ex_ zz) hp13_2 (Gt_ (by omega)) (Ex_.eq_1);refine gx tv99 11 ?_;subst e27;exact qr1
abbrev ty72v99b:TI:=⟨.agg [(0,1),(1,1),(2,1),(3,1),(4,1)],5,88,[.int .i64 0, .int .i64 0, .val (.slice none 0 0), .val (.slice none 0 0), .val (.slice none 0 0)]⟩
def tbv99b:Tb:=[(3,ty3),(22,ty22),(23,ty23),(24,ty24),(26,ty26),(69,ty69),(70,ty70),(72,ty72v99b),(87,ty87),(94,ty94),(148,ty148),(149,ty149)]
theorem B3_:tbB Tryz.prog tbv99b=true:=by kernel_rfl
theorem Ro_ (p:PolicyR) (hp:p.places.length<=100000/\p.slots.length<=100000/\p.grants.length<=100000:=by first|assumption|omega|exact poOk_l (by first|assumption|exact StOk.pol (by assumption))|exact Yo_ (by first|assumption|simpa using hc)):Fn Tryz.prog gb 15 [.agg (PolicyR.pc p)] (.agg (PolicyR.pc (J6_ p))):=by
  refine fC Tryz.func15 B3_ Tryz.ntmps15 fun w N H hG=>?_
  have p_places_l:p.places.length<=140737488355328:=w.1.2.2.1.1
  have p_slots_l:p.slots.length<=140737488355328:=w.1.2.2.2.1.1
  have p_grants_l:p.grants.length<=140737488355328:=w.1.2.2.2.2.1.1
  have e0:=J6_.eq_1 p
  refine gm B3_ 27 [0,1,2] fun B2=>?_
  refine Op_ (i:=2) (o:=2) (k:=5) (e:=148) 3 PlaceR.pc rfl (by decide) rfl rfl ?_
  refine Op_ (i:=2) (o:=3) (k:=1) (e:=3) 4 i64c rfl (by decide) rfl rfl ?_
  refine Op_ (i:=2) (o:=4) (k:=3) (e:=149) 5 GrantR.pc rfl (by decide) rfl rfl ?_
  refine loop (ι:=Nat×Int×Int×(List PlaceR)×(List Int)×(List GrantR)×Value×Value×Value) [1,2,3,14,15] [0,1] (fun ⟨k,work,give_,places,slots,grants,u_places,u_slots,u_grants⟩=>[(16, .int .i64 (k:Int))]) (fun ⟨k,work,give_,places,slots,grants,u_places,u_slots,u_grants⟩=>[(2, .box (B2 2) 72 [.int .i64 work, .int .i64 give_, .osl 3, .osl 4, .osl 5]),(3, .arr u_places 5 148 PlaceR.pc places),(4, .arr u_slots 1 3 i64c slots),(5, .arr u_grants 3 149 GrantR.pc grants)]) (fun ⟨k,work,give_,places,slots,grants,u_places,u_slots,u_grants⟩=>k<=p.places.length/\J6_ p=Fc_ p (p.places.drop k) work give_ places slots grants/\places.length<=k/\slots.length=0/\grants.length=0) (fun ⟨k,work,give_,places,slots,grants,u_places,u_slots,u_grants⟩=>p.places.length-k) ⟨0,p.work,p.give,[],[],[],(.slice none 0 0),(.slice none 0 0),(.slice none 0 0)⟩ ⟨rfl,trivial⟩ ⟨rfl,rfl,rfl,rfl,trivial⟩ ?_ ?_
  · exact⟨Nat.zero_le _,e0,⟨by simp,by simp,by simp⟩⟩
  · rintro⟨k,work,give_,places,slots,grants,u_places,u_slots,u_grants⟩ ⟨hp5_1,hp5_2,hp5_3⟩
    refine gx B3_ 6 ?_
    refine cnd rfl (fun h6=>?_) (fun h6=>?_)
    · have p7:=dt h6
      have e8:=Di_ (f:=fun zz=>Fc_ p zz work give_ places slots grants) hp5_2 (Gs_ (by omega)) (Fc_.eq_2 _ _ _ _ _ _ _ _)
      have hc9:=getG (xs:=p.places) (k:=k) (by omega)
      refine gx B3_ 6 ?_
      refine q1 (qidx B3_ k rfl rfl rfl hc9 rfl rfl rfl rfl) rfl fun w10=>?_
      refine gm B3_ 9 [6] fun B12=>?_
      refine ef (bsl 7 PlaceR.pc [(gt p.places k)] B3_ rfl rfl rfl rfl rfl (fun _=>rfl) rfl (by decide) (by decide) rfl fun u13=>?_)
      refine ef (app B3_ [(gt p.places k)] rfl rfl rfl rfl rfl rfl rfl rfl rfl (src_o rfl rfl) (by first|omega|(simp;omega)) rfl fun u14=>?_)
      refine gx B3_ 1 ?_
      refine ef (Is_ B3_ rfl rfl rfl rfl rfl rfl rfl rfl rfl ?_)
      refine gy B3_ 7 ?_
      refine next ⟨(k+1),work,give_,(places++[(gt p.places k)]),slots,grants,(u14),(u_slots),(u_grants)⟩ rfl rfl ⟨rfl,trivial⟩ ⟨rfl,rfl,rfl,rfl,trivial⟩ ?_ ?_
      · (try simp only[]);omega
      · exact⟨by (try simp only[]);omega,e8,⟨(by (try simp only[List.length_append,List.length_cons,List.length_nil]);omega),by omega,by omega⟩⟩
    · have p15:=df h6
      have e16:=Di_ (f:=fun zz=>Fc_ p zz work give_ places slots grants) hp5_2 (Gt_ (by omega)) (Fc_.eq_1 _ _ _ _ _ _)
      refine gx B3_ 11 ?_
      refine ef (app B3_ p.slots rfl rfl rfl rfl rfl rfl rfl rfl rfl (src_l rfl (fun _=>rfl)) (by first|omega|(simp;omega)) rfl fun u17=>?_)
      refine gx B3_ 1 ?_
      refine ef (Is_ B3_ rfl rfl rfl rfl rfl rfl rfl rfl rfl ?_)
      refine gx B3_ 12 ?_
      refine loop (ι:=Nat×Int×Int×(List PlaceR)×(List Int)×(List GrantR)×Value×Value×Value) [2,3,34,35] [0,1] (fun ⟨k1,work1,give_1,places1,slots1,grants1,u_places1,u_slots1,u_grants1⟩=>[(36, .int .i64 (k1:Int))]) (fun ⟨k1,work1,give_1,places1,slots1,grants1,u_places1,u_slots1,u_grants1⟩=>[(2, .box (B2 2) 72 [.int .i64 work1, .int .i64 give_1, .osl 3, .osl 4, .osl 5]),(3, .arr u_places1 5 148 PlaceR.pc places1),(4, .arr u_slots1 1 3 i64c slots1),(5, .arr u_grants1 3 149 GrantR.pc grants1)]) (fun ⟨k1,work1,give_1,places1,slots1,grants1,u_places1,u_slots1,u_grants1⟩=>k1<=p.grants.length/\J6_ p=Fd_ (p.grants.drop k1) work1 give_1 places1 slots1 grants1/\grants1.length<=k1) (fun ⟨k1,work1,give_1,places1,slots1,grants1,u_places1,u_slots1,u_grants1⟩=>p.grants.length-k1) ⟨0,work,give_,places,(slots++p.slots),grants,(u_places),(u17),(u_grants)⟩ ⟨rfl,trivial⟩ ⟨rfl,rfl,rfl,rfl,trivial⟩ ?_ ?_
      · exact⟨Nat.zero_le _,e16,by omega⟩
      · rintro⟨k1,work1,give_1,places1,slots1,grants1,u_places1,u_slots1,u_grants1⟩ ⟨hp18_1,hp18_2,hp18_3⟩
        refine gx B3_ 6 ?_
        refine cnd rfl (fun h19=>?_) (fun h19=>?_)
        · have p20:=dt h19
          have e21:=Di_ (f:=fun zz=>Fd_ zz work1 give_1 places1 slots1 grants1) hp18_2 (Gs_ (by omega)) (Fd_.eq_2 _ _ _ _ _ _ _)
          have hc22:=getG (xs:=p.grants) (k:=k1) (by omega)
          refine gx B3_ 6 ?_
          refine q1 (qidx B3_ k1 rfl rfl rfl hc22 rfl rfl rfl rfl) rfl fun w23=>?_
          refine gm B3_ 9 [6] fun B25=>?_
          refine ef (bsl 7 GrantR.pc [(gt p.grants k1)] B3_ rfl rfl rfl rfl rfl (fun _=>rfl) rfl (by decide) (by decide) rfl fun u26=>?_)
          refine ef (app B3_ [(gt p.grants k1)] rfl rfl rfl rfl rfl rfl rfl rfl rfl (src_o rfl rfl) (by first|omega|(simp;omega)) rfl fun u27=>?_)
          refine gx B3_ 1 ?_
          refine ef (Is_ B3_ rfl rfl rfl rfl rfl rfl rfl rfl rfl ?_)
          refine gy B3_ 7 ?_
          refine next ⟨(k1+1),work1,give_1,places1,slots1,(grants1++[(gt p.grants k1)]),(u_places1),(u_slots1),(u27)⟩ rfl rfl ⟨rfl,trivial⟩ ⟨rfl,rfl,rfl,rfl,trivial⟩ ?_ ?_
          · (try simp only[]);omega
          · exact⟨by (try simp only[]);omega,e21,(by (try simp only[List.length_append,List.length_cons,List.length_nil]);omega)⟩
        · have p28:=df h19
          have e29:=Di_ (f:=fun zz=>Fd_ zz work1 give_1 places1 slots1 grants1) hp18_2 (Gt_ (by omega)) (Fd_.eq_1 _ _ _ _ _)
          refine gx B3_ 7 ?_
          refine give 3 rfl ?_
          refine give 4 rfl ?_
          refine give 5 rfl ?_
          refine gm B3_ 5 [] fun _=>?_
          exact rt1 rfl rfl (Y_ (fun r:PolicyR=> .agg (PolicyR.pc r)) e29 (ple rfl))
def tbv99c:Tb:=[(26,ty26)]
theorem Mq_:tbB Tryz.prog tbv99c=true:=by kernel_rfl
theorem Wc_ (p:PolicyR):Fn Tryz.prog gb 10 [.agg (PolicyR.pc p)] (.bool (Kb_ p)):=by
  refine fC Tryz.func10 Mq_ Tryz.ntmps10 fun w N H hG=>?_
  have p_places_l:p.places.length<=140737488355328:=w.1.2.2.1.1
  have p_slots_l:p.slots.length<=140737488355328:=w.1.2.2.2.1.1
  have p_grants_l:p.grants.length<=140737488355328:=w.1.2.2.2.2.1.1
  have e0:=Kb_.eq_1 p
  refine gm Mq_ 9 [0] fun B2=>?_
  refine call (Rn_ _) rfl rfl fun w3=>?_
  refine gx Mq_ 2 ?_
  refine callg rfl (fun hc=>(Ro_ _)) rfl ⟨(fun hc=>hc),trivial⟩ rfl rfl fun _=>?_
  refine callg rfl (fun hc=>(St_ _)) rfl ⟨(fun hc=>hc),trivial⟩ rfl rfl fun _=>?_
  refine gy Mq_ 6 ?_
  exact rt1 rfl rfl (Y_ (fun r:Bool=> .bool r) e0 (ple rfl))
theorem cb295:Z_ Tryz.prog 295:=W_ Tryz.func295 (by kernel_rfl) (by kernel_rfl)
theorem cb355:Z_ Tryz.prog 355:=W_ Tryz.func355 (by kernel_rfl) (by kernel_rfl)
def tbv120:Tb:=[(3,ty3),(5,ty5),(9,ty9),(78,ty78),(87,ty87),(92,ty92),(94,ty94),(303,ty303)]
theorem Cu_:tbB Tryz.prog tbv120=true:=by kernel_rfl
theorem strings_SplitL (s p:Bs) (hp:p=[10]) (hs:s.length<4294967281):Fn Tryz.prog gb 246 [.str s, .str p] (.sl strc (cuts 10 s)):=
  ⟨cb246,rfl,fun N H L w us hg hsim hm=>by
    obtain⟨v1,_,rfl,h1,h2⟩:=hsim.inv_cons;obtain⟨v2,_,rfl,h3,h4⟩:=h2.inv_cons
    cases h4.inv_nil
    rw[h1.inv_str.1,h3.inv_str.1]
    refine (SW.strings_SplitL H s p hp (gbML hg) hs N L w hm).mono fun _ _ ⟨v,H',h5,⟨a,c,h6,h7⟩,h8,h9⟩=>⟨v,H',h5,?_,h8,h9⟩
    rw[h6]
    exact Sim.of_slh (k:=1) ⟨h7.1,fun m hm=>by
      obtain⟨cs,hE,hat⟩:=h7.2 m hm;obtain⟨hE1,hE2⟩:=hE;subst hE1;exact⟨_,⟨rfl,Sims.nil.cons (Sim.str hE2),fun u hu=>by simp at hu;subst hu;rfl⟩,hat⟩⟩ (by have :=Tf_ 10 s;omega)⟩
theorem strings_Flds (s:Bs) (hs:s.length<=65536) (hn:(flds s).length<=65536):Fn Tryz.prog gb 295 [.str s, .fn 296 [] []] (.sl strc (flds s)):=
  ⟨cb295,rfl,fun N H L w us hg hsim hm=>by
    obtain⟨v1,_,rfl,h1,h2⟩:=hsim.inv_cons;obtain⟨v2,_,rfl,h3,h4⟩:=h2.inv_cons
    cases h4.inv_nil
    rw[h1.inv_str.1,inv_fn0 h3]
    refine (SW.strings_Flds H s hs N L w hm).mono fun _ _ ⟨v,H',h5,⟨a,c,h6,h7⟩,h8,h9⟩=>⟨v,H',h5,?_,h8,h9⟩
    rw[h6]
    exact Sim.of_slh (k:=1) ⟨h7.1,fun m hm=>by
      obtain⟨cs,hE,hat⟩:=h7.2 m hm;obtain⟨hE1,hE2⟩:=hE;subst hE1;exact⟨_,⟨rfl,Sims.nil.cons (Sim.str hE2),fun u hu=>by simp at hu;subst hu;rfl⟩,hat⟩⟩ (by have :=hn;omega)⟩
theorem strconv_PU (s:Bs) (b z:Int) (hb:b=10) (hz:z=64) (hl:s.length<=19) (h0:0<s.length) (hd:Ev_ s=true):Fn Tryz.prog gb 355 [.str s, .int .i64 b, .int .i64 z] (.tup [.int .u64 (dec s:Int), .val .nilIface]):=
  ⟨cb355,rfl,fun N H L w us hg hsim hm=>by
    obtain⟨v1,_,rfl,h1,h2⟩:=hsim.inv_cons;obtain⟨v2,_,rfl,h3,h4⟩:=h2.inv_cons;obtain⟨v3,_,rfl,h5,h6⟩:=h4.inv_cons
    cases h6.inv_nil
    rw[h1.inv_str.1,h3.inv_int.1,h5.inv_int.1]
    subst hb;subst hz;refine (SW.strconv_PU s hl h0 hd w).mono fun _ _ ⟨he,hb⟩=>⟨_,H,he,?_, .refl H,Mem.below hm hb⟩;exact Sim.toTup (Sims.cons (Sim.int (Int.natCast_nonneg _) (dec_ok hl h0 hd).2) (Sims.cons Sim.val Sims.nil))⟩
theorem N5_ (s:Bs) (hs:s.length<=65536:=by omega) (hn:(flds s).length<=65536:=by first|assumption|exact hz_.2.1):Fn Tryz.prog gb 247 [.str s] (.sl strc (Go_ s)):=by
  refine fC Tryz.func247 Cu_ Tryz.ntmps247 fun w N H hG=>?_;have s_l:s.length<=9223372036854775807:=w.1;have e0:=Go_.eq_1 s;refine gx Cu_ 8 ?_;refine call (strings_Flds _ (by omega) (by assumption)) rfl rfl fun w1=>?_;refine gx Cu_ 4 ?_;exact rt1 rfl rfl (Y_ (fun r:(List Bs)=> .sl strc r) e0 (ple rfl))
theorem Hj_ (n:Int) (least:Int) (most:Int):Fn Tryz.prog gb 337 [.int .i64 n, .int .i64 least, .int .i64 most] (.int .i64 (Fq_ n least most)):=by
  refine fC Tryz.func337 Cu_ Tryz.ntmps337 fun w N H hG=>?_;have n_r:-9223372036854775808<=n/\n<=9223372036854775807:=w.1;have least_r:-9223372036854775808<=least/\least<=9223372036854775807:=w.2.1;have most_r:-9223372036854775808<=most/\most<=9223372036854775807:=w.2.2.1;have e0:=Fq_.eq_1 n least most;generalize Fq_ n least most=z at e0 ⊢;refine gx Cu_ 15 ?_;refine cD e0 (fun p2 e3=>?_) (fun p4 e5=>?_)
  · refine gx Cu_ 8 ?_;subst e3;exact qr1
  refine gx Cu_ 8 ?_;refine cD e5 (fun p7 e8=>?_) (fun p9 e10=>?_)
  · refine gx Cu_ 8 ?_;subst e8;exact qr1
  refine gx Cu_ 9 ?_;subst e10;exact qr1
theorem Mf_ (y:PlaceR) (x1:PlaceR):Fn Tryz.prog gb 356 [.agg (PlaceR.pc y), .el (PlaceR.pc x1) 0] (.bool (G4_ y x1)):=by
  refine fC Tryz.func356 Cu_ Tryz.ntmps356 fun w N H hG=>?_;have e0:=G4_.eq_1 y x1;refine gmy Cu_ 18 [0] fun B2=>?_;refine q1g [11,13] rfl (fun hc=>saeq rfl rfl eqg92 (veq92 y.label x1.label)) ⟨(fun hc=>hc),(fun hc=>hc),trivial⟩ rfl rfl rfl fun _=>?_;refine gy Cu_ 5 ?_;exact rt1 rfl rfl (Y_ (fun r:Bool=> .bool r) e0 (ple rfl))
theorem Me_ (y:GrantR) (x1:GrantR):Fn Tryz.prog gb 359 [.agg (GrantR.pc y), .el (GrantR.pc x1) 0] (.bool (G3_ y x1)):=by
  refine fC Tryz.func359 Cu_ Tryz.ntmps359 fun w N H hG=>?_;have e0:=G3_.eq_1 y x1;refine gmy Cu_ 24 [0] fun B2=>?_;exact rt1 rfl rfl (Y_ (fun r:Bool=> .bool r) e0 (ple rfl))
theorem M1_ (s:List Int) (v:Int):Fn Tryz.prog gb 305 [.sl i64c s, .int .i64 v] (.bool (I2_ s v)):=by
  refine fC Tryz.func305 Cu_ Tryz.ntmps305 fun w N H hG=>?_;have s_l:s.length<=140737488355328:=w.1.1;have v_r:-9223372036854775808<=v/\v<=9223372036854775807:=w.2.1;have e0:=I2_.eq_1 s v;refine gx Cu_ 9 ?_;refine cV e0 R0_ (Yl_ _ _) rfl fun r hr1 e3 w2=>?_;have hA3:=Fn_ (fun y=>decide (v=y)) s
  (try rw[<- hr1] at hA3)
  refine gx Cu_ 5 ?_;exact rt1 rfl rfl (Y_ (fun r:Bool=> .bool r) e3 (ple rfl))
theorem Xk_ (vals:List Int):Fn Tryz.prog gb 301 [.sl i64c vals] (.int .i64 (Q1_ vals)):=by
  refine fC Tryz.func301 Cu_ Tryz.ntmps301 fun w N H hG=>?_;have vals_l:vals.length<=140737488355328:=w.1.1;have e0:=Q1_.eq_1 vals;generalize Q1_ vals=z at e0 ⊢;refine gx Cu_ 19 ?_;refine loop (ι:=Nat) [3,6,7] [] (fun k=>[(8, .int .i64 (k:Int))]) (fun k=>[]) (fun k=>k<=vals.length/\z=Hc_ (vals.drop k)) (fun k=>vals.length-k) 0 ⟨rfl,trivial⟩ trivial ?_ ?_
  · exact⟨Nat.zero_le _,e0⟩
  rintro k ⟨hp1_1,hp1_2⟩;refine gx Cu_ 6 ?_;refine cn rfl (fun p3=>?_) fun p14=>?_
  · have e4:=Di_ (f:=fun zz=>Hc_ zz) hp1_2 (Gs_ (by omega)) (Hc_.eq_2 _ _);have hc5:=getG (xs:=vals) (k:=k) (by omega);refine gx Cu_ 6 ?_;refine q1 (qidx Cu_ k rfl rfl rfl hc5 rfl rfl rfl rfl) rfl fun w6=>?_;refine gx Cu_ 11 ?_;refine cN e4 (fun p9 e10=>?_) (fun p12 e13=>?_)
    · refine gx Cu_ 12 ?_;subst e10;exact qr1
    refine gy Cu_ 7 ?_;refine next (k+1) rfl rfl ⟨rfl,trivial⟩ trivial ?_ ?_
    · (try simp only[]);omega
    exact⟨by (try simp only[]);omega,e13⟩
  have e15:=Di_ (f:=fun zz=>Hc_ zz) hp1_2 (Gt_ (by omega)) (Hc_.eq_1);refine gx Cu_ 12 ?_;subst e15;exact qr1
theorem Ma_ (a:LabelR):Fn Tryz.prog gb 357 [.agg (LabelR.pc a)] (.bool (Fs_ a)):=by
  refine fC Tryz.func357 Cu_ Tryz.ntmps357 fun w N H hG=>?_;have e0:=Fs_.eq_1 a;refine gm Cu_ 15 [0] fun B2=>?_;exact rt1 rfl rfl (Y_ (fun r:Bool=> .bool r) e0 (ple rfl))
theorem H9_ (s:Bs) (most:Int) (hm:0<=most/\most<=1000:=by omega):Fn Tryz.prog gb 341 [.str s, .int .i64 most] (.tup [.int .i64 ((B4_ s most).1), .str ((B4_ s most).2.1), .int .i64 ((B4_ s most).2.2)]):=by
  refine fC Tryz.func341 Cu_ Tryz.ntmps341 fun w N H hG=>?_;have s_l:s.length<=9223372036854775807:=w.1;have most_r:-9223372036854775808<=most/\most<=9223372036854775807:=w.2.1;have e0:=B4_.eq_1 s most;generalize B4_ s most=z at e0 ⊢;refine gx Cu_ 18 ?_;obtain⟨o,e_o,q_o⟩:=Sj_ e0;refine Ho_ (ι:=Int×Int) [0,1,4,5,6] [] (fun ⟨k,n⟩=>[(7, .int .i64 k),(8, .int .i64 n)]) (fun ⟨k,n⟩=>[]) (fun ⟨k,n⟩=>o=(k,n)/\0<=k/\k<=s.length) ?_ ?_
  · refine gx Cu_ 1 ?_;refine loop (ι:=Nat×Nat×Int) [0,1,4,5,6] [] (fun ⟨f,k1,n1⟩=>[(7, .int .i64 (k1:Int)),(8, .int .i64 n1)]) (fun ⟨f,k1,n1⟩=>[]) (fun ⟨f,k1,n1⟩=>s.length-k1<f/\o=B0_ s most f k1 n1/\k1<=s.length/\0<=n1/\n1<=10*most+9) (fun ⟨f,k1,n1⟩=>f) ⟨(s.length-0+1),0,0⟩ ⟨rfl,rfl,trivial⟩ trivial ?_ ?_
    · exact⟨Nat.lt_succ_self _,e_o,⟨by omega,by omega,by omega⟩⟩
    rintro⟨f,k1,n1⟩ ⟨hp1_1,hp1_2,hp1_3⟩;obtain⟨hi1,hi2,hi3⟩:=hp1_3;obtain⟨f1,rfl⟩:∃ q,f=q+1:=⟨f-1,by omega⟩;have e_f1:=hp1_2.trans (B0_.eq_2 _ _ _ _ _);refine gx Cu_ 9 ?_;refine cD e_f1 (fun p3 e4=>?_) (fun p18 e19=>?_)
    · have :=u8r (s.getD k1 0);refine gx Cu_ 8 ?_;refine q1 (sidx Cu_ k1 rfl rfl rfl rfl rfl (by omega)) rfl fun w5=>?_;refine gy Cu_ 15 ?_;refine cE e4 (fun h6 e7=>?_) (fun h6 e12=>?_)
      · refine gx Cu_ 6 ?_;refine nX ⟨(k1:Int),n1⟩ ?_ ⟨rfl,rfl,trivial⟩ trivial;exact⟨e7,⟨by omega,by omega⟩⟩
      have h8:=orl h6;have p9:=df h8;have h10:=orr h6;have p11:=df h10;refine gx Cu_ 8 ?_;refine cD e12 (fun p14 e15=>?_) (fun p16 e17=>?_)
      · have :=wr_u8 (((s.getD k1 0).toNat:Int)-48);refine gy Cu_ 17 ?_;refine next ⟨f1,(k1+1),((10*n1)+(IntKind.wrap .u8 (((s.getD k1 0).toNat:Int)-48)))⟩ rfl rfl ⟨rfl,rfl,trivial⟩ trivial ?_ ?_
        · (try simp only[]);omega
        exact⟨by (try simp only[]);omega,e15,⟨by omega,by first|omega|(simp only[IntKind.wrap_u8];omega),by first|omega|(simp only[IntKind.wrap_u8];omega)⟩⟩
      refine gy Cu_ 9 ?_;refine next ⟨f1,(k1+1),n1⟩ rfl rfl ⟨rfl,rfl,trivial⟩ trivial ?_ ?_
      · (try simp only[]);omega
      exact⟨by (try simp only[]);omega,e17,⟨by omega,by first|omega|(simp only[IntKind.wrap_u8];omega),by first|omega|(simp only[IntKind.wrap_u8];omega)⟩⟩
    refine gx Cu_ 4 ?_;refine nX ⟨(k1:Int),n1⟩ ?_ ⟨rfl,rfl,trivial⟩ trivial;exact⟨e19,⟨by omega,by omega⟩⟩
  rintro⟨k,n⟩ ⟨hp20,hp20_3⟩;have e21:=Zf_ q_o hp20;refine gy Cu_ 15 ?_;refine cE e21 (fun h22 e27=>?_) (fun h22 e28=>?_)
  · have h23:=bl h22;have p24:=dt h23;have h25:=br h22;have p26:=dt h25;refine gx Cu_ 11 ?_;subst e27;exact qr3
  refine gx Cu_ 1 ?_;obtain⟨o1,e_o1,q_o1⟩:=Hh_ e28;refine Ho_ (ι:=Bool) [0,1,4,5,6,7,8] [] (fun v=>[(44, .bool v)]) (fun v=>[]) (fun v=>o1=v) ?_ ?_
  · refine gx Cu_ 7 ?_;refine cD e_o1 (fun p30 e31=>?_) (fun p32 e33=>?_)
    · refine gx Cu_ 1 ?_;refine nX (decide (k=0)) ?_ ⟨rfl,trivial⟩ trivial;exact e31
    have :=u8r (s.getD 0 0);refine gx Cu_ 5 ?_;refine q1g [50] rfl (fun hc=>sidx Cu_ 0 rfl rfl rfl rfl rfl (by first|omega|(simp only[gOf,bl2] at *;omega))) ⟨(fun hc=>hc),trivial⟩ rfl rfl rfl fun _=>?_;refine gy Cu_ 4 ?_;refine nX ((decide (1<k))&&(decide (((s.getD 0 0).toNat:Int)=48))) ?_ ⟨rfl,trivial⟩ trivial;exact e33
  rintro v hp34;have e35:=Kd_ q_o1 hp34;refine gx Cu_ 1 ?_;refine cE e35 (fun h36 e37=>?_) (fun h36 e38=>?_)
  · refine gx Cu_ 11 ?_;subst e37;exact qr3
  refine gx Cu_ 8 ?_;refine cD e38 (fun p40 e41=>?_) (fun p42 e43=>?_)
  · refine gx Cu_ 11 ?_;subst e41;exact qr3
  refine gx Cu_ 4 ?_;refine aN [0,1,2,3,4,5] 7 mixd ?_;refine gX Cu_ [0,1,2] 4 ?_;refine vq 3 (sslo Cu_ (k).toNat rfl rfl rfl rfl (by omega) (by omega)) rfl (by kernel_rfl) rfl fun w44=>?_;refine gX Cu_ [4,5,6] 0 ?_;refine vD ?_;refine gx Cu_ 3 ?_;subst e43;exact qr3
abbrev R24_:(Int×Int)->PV:=fun r=> .tup [.int .u64 r.1, .int .i64 r.2]
abbrev R25_:(Int×Bs×Int)->PV:=fun r=> .tup [.int .i64 r.1, .str r.2.1, .int .i64 r.2.2]
def tbv121:Tb:=[(3,ty3),(5,ty5),(9,ty9),(22,ty22),(23,ty23),(24,ty24),(26,ty26),(36,ty36),(78,ty78),(87,ty87),(90,ty90),(92,ty92),(94,ty94),(303,ty303)]
theorem L_:tbB Tryz.prog tbv121=true:=by kernel_rfl
theorem N4_ (x:PlaceR) (ahead:List PlaceR):Fn Tryz.prog gb 338 [.agg (PlaceR.pc x), .sl PlaceR.pc ahead] (.int .i64 (Gn_ x ahead)):=by
  refine fC Tryz.func338 L_ Tryz.ntmps338 fun w N H hG=>?_;have ahead_l:ahead.length<=140737488355328:=w.2.1.1;have e0:=Gn_.eq_1 x ahead;generalize Gn_ x ahead=z at e0 ⊢;refine gm L_ 8 [0] fun B2=>?_;refine freeze (i:=0) (t:=2) rfl rfl rfl rfl ?_;refine gx L_ 9 ?_;refine call (Ch_ _) rfl rfl fun w3=>?_;refine gx L_ 11 ?_;refine cN e0 (fun p6 e7=>?_) (fun p9 e10=>?_)
  · refine gx L_ 9 ?_;subst e7;exact qr1
  refine gx L_ 1 ?_;obtain⟨o,e_o,q_o⟩:=Hh_ e10;refine Ho_ (ι:=Bool) [1,4,5] [] (fun v=>[(15, .bool v)]) (fun v=>[]) (fun v=>o=v) ?_ ?_
  · refine gx L_ 4 ?_;refine call (Ma_ _) rfl rfl fun w11=>?_;refine gx L_ 4 ?_;refine cE e_o (fun h12 e14=>?_) (fun h12 e16=>?_)
    · have h13:=C7_ h12;refine gx L_ 1 ?_;refine nX (!(Fs_ x.label)) ?_ ⟨rfl,trivial⟩ trivial;exact e14
    have h15:=Dd_ h12;refine gx L_ 4 ?_;refine call (Ep_ _ _ _) rfl rfl fun w17=>?_;refine gx L_ 4 ?_;refine cE e16 (fun h18 e20=>?_) (fun h18 e22=>?_)
    · have h19:=C7_ h18;refine gx L_ 1 ?_;refine nX (!(Be_ x.bytes 0 65536)) ?_ ⟨rfl,trivial⟩ trivial;exact e20
    have h21:=Dd_ h18;refine gx L_ 6 ?_;refine nX (decide (x.base=0)) ?_ ⟨rfl,trivial⟩ trivial;exact e22
  rintro v hp23;have e24:=Kd_ q_o hp23;refine gx L_ 1 ?_;refine cE e24 (fun h25 e26=>?_) (fun h25 e27=>?_)
  · refine gx L_ 8 ?_;subst e26;exact qr1
  refine gx L_ 4 ?_;refine call (cF_Place _ _ _ _ (fun z_28:PlaceR=>(G4_ z_28 x)) (fun z_28=>Mf_ z_28 x)) rfl rfl fun w29=>?_;refine gx L_ 3 ?_;refine cD e27 (fun p31 e32=>?_) (fun p33 e34=>?_)
  · refine gx L_ 8 ?_;subst e32;exact qr1
  refine gx L_ 9 ?_;subst e34;exact qr1
theorem Iy_ (p:PolicyR) (x:GrantR) (ahead:List GrantR):Fn Tryz.prog gb 339 [.agg (PolicyR.pc p), .agg (GrantR.pc x), .sl GrantR.pc ahead] (.int .i64 (Dx_ p x ahead)):=by
  refine fC Tryz.func339 L_ Tryz.ntmps339 fun w N H hG=>?_;have p_places_l:p.places.length<=140737488355328:=w.1.2.2.1.1;have p_slots_l:p.slots.length<=140737488355328:=w.1.2.2.2.1.1;have p_grants_l:p.grants.length<=140737488355328:=w.1.2.2.2.2.1.1;have ahead_l:ahead.length<=140737488355328:=w.2.2.1.1;have e0:=Dx_.eq_1 p x ahead;generalize Dx_ p x ahead=z at e0 ⊢;refine gm L_ 9 [0,1] fun B2=>?_;refine freeze (i:=1) (t:=4) rfl rfl rfl rfl ?_;refine gx L_ 12 ?_;refine call (Cy_ _ _) rfl rfl fun w4=>?_;refine gx L_ 4 ?_;refine cE e0 (fun h5 e7=>?_) (fun h5 e10=>?_)
  · have h6:=C7_ h5;refine gx L_ 2 ?_;refine cndT rfl h5 ?_;refine gx L_ 8 ?_;subst e7;exact qr1
  have h8:=Dd_ h5;have hb8:=V1_ h8
  (try obtain⟨hb8a,hb8b⟩:=hb8)
  refine gx L_ 4 ?_;refine call (Cy_ _ _) rfl rfl fun w11=>?_;refine gx L_ 4 ?_;refine cE e10 (fun h12 e14=>?_) (fun h12 e17=>?_)
  · have h13:=C7_ h12;refine gx L_ 8 ?_;subst e14;exact qr1
  have h15:=Dd_ h12;have hb15:=V1_ h15
  (try obtain⟨hb15a,hb15b⟩:=hb15)
  refine gx L_ 1 ?_;refine aN [1,2,3,4,5,6] 16 mixd ?_;refine gX L_ [0,1,2,3] 12 ?_;have hc18:=getG (xs:=p.places) (k:=(x.frm).toNat) (by omega);refine vq 4 (qidx L_ (x.frm).toNat rfl rfl (by omega) hc18 rfl rfl rfl rfl) rfl (by kernel_rfl) rfl fun w19=>?_;refine gX L_ [5,6,7,8,9,10] 5 ?_;have hc20:=getG (xs:=p.places) (k:=(x.to').toNat) (by omega);refine vq 11 (qidx L_ (x.to').toNat rfl rfl (by omega) hc20 rfl rfl rfl rfl) rfl (by kernel_rfl) rfl fun w21=>?_;refine gX L_ [12,13] 2 ?_;refine vC 14 rfl (En_ _ _) rfl fun w22=>?_;refine gX L_ [15] 0 ?_;refine vD ?_;refine gx L_ 1 ?_;refine cE e17 (fun h23 e24=>?_) (fun h23 e25=>?_)
  · refine gx L_ 8 ?_;subst e24;exact qr1
  refine gx L_ 4 ?_;refine call (Ep_ _ _ _) rfl rfl fun w26=>?_;refine gx L_ 4 ?_;refine cE e25 (fun h27 e29=>?_) (fun h27 e31=>?_)
  · have h28:=C7_ h27;refine gx L_ 8 ?_;subst e29;exact qr1
  have h30:=Dd_ h27;refine gx L_ 4 ?_;refine call (cF_Grant _ _ _ _ (fun z_32:GrantR=>(G3_ z_32 x)) (fun z_32=>Me_ z_32 x)) rfl rfl fun w33=>?_;refine gx L_ 3 ?_;refine cD e31 (fun p35 e36=>?_) (fun p37 e38=>?_)
  · refine gx L_ 8 ?_;subst e36;exact qr1
  refine gx L_ 9 ?_;subst e38;exact qr1
theorem Ip_ (p:PolicyR):Fn Tryz.prog gb 302 [.agg (PolicyR.pc p)] (.int .i64 (Cr_ p)):=by
  refine fC Tryz.func302 L_ Tryz.ntmps302 fun w N H hG=>?_;have p_places_l:p.places.length<=140737488355328:=w.1.2.2.1.1;have p_slots_l:p.slots.length<=140737488355328:=w.1.2.2.2.1.1;have p_grants_l:p.grants.length<=140737488355328:=w.1.2.2.2.2.1.1;have e0:=Cr_.eq_1 p;refine gm L_ 11 [0] fun B2=>?_;refine cV e0 R0_ (Hj_ _ _ _) rfl fun r hr3 e5 w4=>?_;refine gx L_ 10 ?_;refine loop (ι:=Nat×Int×Nat) [1,2] [0] (fun ⟨f,e_1,i⟩=>[(3, .int .i64 e_1),(4, .int .i64 (i:Int))]) (fun ⟨f,e_1,i⟩=>[]) (fun ⟨f,e_1,i⟩=>p.places.length+1-i<f/\Cr_ p=Dn_ p f e_1 i/\i<=p.places.length) (fun ⟨f,e_1,i⟩=>f) ⟨(p.places.length+1-0+1),r,0⟩ ⟨rfl,rfl,trivial⟩ trivial ?_ ?_
  · exact⟨Nat.lt_succ_self _,e5,Nat.zero_le _⟩
  rintro⟨f,e_1,i⟩ ⟨hp6_1,hp6_2,hp6_3⟩;obtain⟨f1,rfl⟩:∃ q,f=q+1:=⟨f-1,by omega⟩;have e_f1:=hp6_2.trans (Dn_.eq_2 _ _ _ _);refine gy L_ 14 ?_;refine cE e_f1 (fun h7 e12=>?_) (fun h7 e17=>?_)
  · have h8:=bl h7;have p9:=dt h8;have h10:=br h7;have p11:=dt h10;refine gx L_ 4 ?_;refine aN [1,2,3,4,5,6] 11 mixd ?_;refine gX L_ [0,1,2] 8 ?_;have hc13:=getG (xs:=p.places) (k:=i) (by omega);refine vq 3 (qidx L_ i rfl rfl rfl hc13 rfl rfl rfl rfl) rfl (by kernel_rfl) rfl fun w14=>?_;refine gX L_ [4,5,6,7] 3 ?_;refine vq 8 (lshi L_ i rfl rfl rfl rfl rfl (fun _=>rfl) rfl (by omega)) rfl (by kernel_rfl) rfl fun w15=>?_;refine vC 9 rfl (N4_ _ _) rfl fun w16=>?_;refine gX L_ [10] 0 ?_;refine vD ?_;refine gy L_ 7 ?_;refine next ⟨f1,(Gn_ (gt p.places i) (p.places.take i)),(i+1)⟩ rfl rfl ⟨rfl,rfl,trivial⟩ trivial ?_ ?_
    · (try simp only[]);omega
    exact⟨by (try simp only[]);omega,e12,by omega⟩
  refine gx L_ 12 ?_;exact rt1 rfl rfl (Y_ (fun r:Int=> .int .i64 r) e17 (ple rfl))
theorem Iz_ (p:PolicyR):Fn Tryz.prog gb 303 [.agg (PolicyR.pc p)] (.int .i64 (C0_ p)):=by
  refine fC Tryz.func303 L_ Tryz.ntmps303 fun w N H hG=>?_;have p_places_l:p.places.length<=140737488355328:=w.1.2.2.1.1;have p_slots_l:p.slots.length<=140737488355328:=w.1.2.2.2.1.1;have p_grants_l:p.grants.length<=140737488355328:=w.1.2.2.2.2.1.1;have e0:=C0_.eq_1 p;refine gm L_ 11 [0] fun B2=>?_;refine cV e0 R0_ (Hj_ _ _ _) rfl fun r hr3 e5 w4=>?_;refine gx L_ 10 ?_;refine loop (ι:=Nat×Int×Nat) [1,2] [0] (fun ⟨f,e_1,i⟩=>[(3, .int .i64 e_1),(4, .int .i64 (i:Int))]) (fun ⟨f,e_1,i⟩=>[]) (fun ⟨f,e_1,i⟩=>p.slots.length+1-i<f/\C0_ p=Cx_ p f e_1 i/\i<=p.slots.length) (fun ⟨f,e_1,i⟩=>f) ⟨(p.slots.length+1-0+1),r,0⟩ ⟨rfl,rfl,trivial⟩ trivial ?_ ?_
  · exact⟨Nat.lt_succ_self _,e5,Nat.zero_le _⟩
  rintro⟨f,e_1,i⟩ ⟨hp6_1,hp6_2,hp6_3⟩;obtain⟨f1,rfl⟩:∃ q,f=q+1:=⟨f-1,by omega⟩;have e_f1:=hp6_2.trans (Cx_.eq_2 _ _ _ _);refine gy L_ 14 ?_;refine cE e_f1 (fun h7 e12=>?_) (fun h7 e21=>?_)
  · have h8:=bl h7;have p9:=dt h8;have h10:=br h7;have p11:=dt h10;refine gx L_ 5 ?_;refine aN [1,2,3,4,5,6] 8 mixd ?_;refine gX L_ [0,1,2,3] 4 ?_;have hc13:=getG (xs:=p.slots) (k:=i) (by omega);refine vq 4 (qidx L_ i rfl rfl rfl hc13 rfl rfl rfl rfl) rfl (by kernel_rfl) rfl fun w14=>?_;refine gX L_ [5] 2 ?_;refine vC 6 rfl (Cy_ _ _) rfl fun w15=>?_;refine gX L_ [7] 0 ?_;refine vD ?_;refine gx L_ 1 ?_;refine cE e12 (fun h16 e18=>?_) (fun h16 e20=>?_)
    · have h17:=C7_ h16;refine gy L_ 10 ?_;refine next ⟨f1,10,(i+1)⟩ rfl rfl ⟨rfl,rfl,trivial⟩ trivial ?_ ?_
      · (try simp only[]);omega
      exact⟨by (try simp only[]);omega,e18,by omega⟩
    have h19:=Dd_ h16;refine gy L_ 8 ?_;refine next ⟨f1,e_1,(i+1)⟩ rfl rfl ⟨rfl,rfl,trivial⟩ trivial ?_ ?_
    · (try simp only[]);omega
    exact⟨by (try simp only[]);omega,e20,by omega⟩
  refine gx L_ 12 ?_;exact rt1 rfl rfl (Y_ (fun r:Int=> .int .i64 r) e21 (ple rfl))
theorem Io_ (p:PolicyR):Fn Tryz.prog gb 304 [.agg (PolicyR.pc p)] (.int .i64 (Cq_ p)):=by
  refine fC Tryz.func304 L_ Tryz.ntmps304 fun w N H hG=>?_;have p_places_l:p.places.length<=140737488355328:=w.1.2.2.1.1;have p_slots_l:p.slots.length<=140737488355328:=w.1.2.2.2.1.1;have p_grants_l:p.grants.length<=140737488355328:=w.1.2.2.2.2.1.1;have e0:=Cq_.eq_1 p;refine gm L_ 11 [0] fun B2=>?_;refine cV e0 R0_ (Hj_ _ _ _) rfl fun r hr3 e5 w4=>?_;refine gx L_ 10 ?_;refine loop (ι:=Nat×Int×Nat) [1,2] [0] (fun ⟨f,e_1,i⟩=>[(3, .int .i64 e_1),(4, .int .i64 (i:Int))]) (fun ⟨f,e_1,i⟩=>[]) (fun ⟨f,e_1,i⟩=>p.grants.length+1-i<f/\Cq_ p=Dm_ p f e_1 i/\i<=p.grants.length) (fun ⟨f,e_1,i⟩=>f) ⟨(p.grants.length+1-0+1),r,0⟩ ⟨rfl,rfl,trivial⟩ trivial ?_ ?_
  · exact⟨Nat.lt_succ_self _,e5,Nat.zero_le _⟩
  rintro⟨f,e_1,i⟩ ⟨hp6_1,hp6_2,hp6_3⟩;obtain⟨f1,rfl⟩:∃ q,f=q+1:=⟨f-1,by omega⟩;have e_f1:=hp6_2.trans (Dm_.eq_2 _ _ _ _);refine gy L_ 14 ?_;refine cE e_f1 (fun h7 e12=>?_) (fun h7 e17=>?_)
  · have h8:=bl h7;have p9:=dt h8;have h10:=br h7;have p11:=dt h10;refine gx L_ 4 ?_;refine aN [1,2,3,4,5,6] 12 mixd ?_;refine gX L_ [0,1,2,3] 8 ?_;have hc13:=getG (xs:=p.grants) (k:=i) (by omega);refine vq 4 (qidx L_ i rfl rfl rfl hc13 rfl rfl rfl rfl) rfl (by kernel_rfl) rfl fun w14=>?_;refine gX L_ [5,6,7,8] 3 ?_;refine vq 9 (lshi L_ i rfl rfl rfl rfl rfl (fun _=>rfl) rfl (by omega)) rfl (by kernel_rfl) rfl fun w15=>?_;refine vC 10 rfl (Iy_ _ _ _) rfl fun w16=>?_;refine gX L_ [11] 0 ?_;refine vD ?_;refine gy L_ 7 ?_;refine next ⟨f1,(Dx_ p (gt p.grants i) (p.grants.take i)),(i+1)⟩ rfl rfl ⟨rfl,rfl,trivial⟩ trivial ?_ ?_
    · (try simp only[]);omega
    exact⟨by (try simp only[]);omega,e12,by omega⟩
  refine gx L_ 12 ?_;exact rt1 rfl rfl (Y_ (fun r:Int=> .int .i64 r) e17 (ple rfl))
theorem Ix_ (p:PolicyR):Fn Tryz.prog gb 249 [.agg (PolicyR.pc p)] (.int .i64 (Ek_ p)):=by
  refine fC Tryz.func249 L_ Tryz.ntmps249 fun w N H hG=>?_;have p_places_l:p.places.length<=140737488355328:=w.1.2.2.1.1;have p_slots_l:p.slots.length<=140737488355328:=w.1.2.2.2.1.1;have p_grants_l:p.grants.length<=140737488355328:=w.1.2.2.2.2.1.1;have e0:=Ek_.eq_1 p;generalize Ek_ p=z at e0 ⊢;refine gm L_ 11 [0] fun B2=>?_;refine call (Ep_ _ _ _) rfl rfl fun w3=>?_;refine gy L_ 4 ?_;refine callg rfl (fun hc=>(Ep_ _ _ _)) rfl ⟨(fun hc=>hc),trivial⟩ rfl rfl fun _=>?_;refine gy L_ 4 ?_;refine cE e0 (fun h4 e5=>?_) (fun h4 e10=>?_)
  · refine gx L_ 7 ?_;subst e5;exact qr1
  have h6:=orl h4;have h7:=Dd_ h6;have h8:=orr h4;have h9:=Dd_ h8;refine gx L_ 4 ?_;refine aN [1,2,3,4,5,6] 9 mixd ?_;refine gX L_ [0] 8 ?_;refine vC 1 rfl (Ip_ _) rfl fun w11=>?_;refine gX L_ [2] 6 ?_;refine vC 3 rfl (Iz_ _) rfl fun w12=>?_;refine gX L_ [4] 4 ?_;refine vC 5 rfl (Io_ _) rfl fun w13=>?_;refine vE 6 rfl (bsl 1 i64c [(Cr_ p),(C0_ p),(Cq_ p)] L_ rfl rfl rfl rfl rfl (fun _=>rfl) rfl (by decide) (by decide) rfl fun u14=>?_);refine vE 7 rfl (calll 1 rfl (Xk_ _) rfl rfl rfl fun w15=>?_);refine gX L_ [8] 0 ?_;refine vD ?_;refine gx L_ 7 ?_;refine cN e10 (fun p18 e19=>?_) (fun p21 e22=>?_)
  · refine gx L_ 8 ?_;subst e19;exact qr1
  refine gx L_ 12 ?_;refine loop (ι:=Nat) [1,28] [0,1] (fun k=>[(29, .int .i64 (k:Int))]) (fun k=>[]) (fun k=>k<=p.places.length/\z=Bp_ p (p.places.drop k) k) (fun k=>p.places.length-k) 0 ⟨rfl,trivial⟩ trivial ?_ ?_
  · exact⟨Nat.zero_le _,e22⟩
  rintro k ⟨hp23_1,hp23_2⟩;refine gx L_ 6 ?_;refine cn rfl (fun p25=>?_) fun p33=>?_
  · have e26:=Di_ (f:=fun zz=>Bp_ p zz k) hp23_2 (Gs_ (by omega)) (Bp_.eq_2 _ _ _ _);refine gx L_ 15 ?_;refine call (M1_ _ _) rfl rfl fun w27=>?_;refine gx L_ 3 ?_;refine cE e26 (fun h28 e30=>?_) (fun h28 e32=>?_)
    · have h29:=C7_ h28;refine gx L_ 11 ?_;subst e30;exact qr1
    have h31:=Dd_ h28;refine gy L_ 7 ?_;refine next (k+1) rfl rfl ⟨rfl,trivial⟩ trivial ?_ ?_
    · (try simp only[]);omega
    exact⟨by (try simp only[]);omega,e32⟩
  have e34:=Di_ (f:=fun zz=>Bp_ p zz k) hp23_2 (Gt_ (by omega)) (Bp_.eq_1 _ _);refine gx L_ 11 ?_;subst e34;exact qr1
theorem Iv_ (s:Bs) (most:Int) (hl:s.length<=19:=by omega):Fn Tryz.prog gb 336 [.str s, .int .u64 most] (.tup [.int .u64 ((E4_ s most).1), .int .i64 ((E4_ s most).2)]):=by
  refine fC Tryz.func336 L_ Tryz.ntmps336 fun w N H hG=>?_;have s_l:s.length<=9223372036854775807:=w.1;have most_r:0<=most/\most<=18446744073709551615:=w.2.1;have e0:=E4_.eq_1 s most;generalize E4_ s most=z at e0 ⊢;have :=u8r (s.getD 0 0);refine gy L_ 17 ?_;refine q1g [16] rfl (fun hc=>sidx L_ 0 rfl rfl rfl rfl rfl (by first|omega|(simp only[gOf,bl2] at *;omega))) ⟨(fun hc=>hc),trivial⟩ rfl rfl rfl fun _=>?_;refine gy L_ 5 ?_;refine cE e0 (fun h1 e2=>?_) (fun h1 e6=>?_)
  · refine gx L_ 8 ?_;subst e2;exact qr2
  have h3:=orl h1;have p4:=df h3;have h5:=orr h1;refine gx L_ 11 ?_;refine loop (ι:=Nat) [0,1,22] [] (fun k=>[(23, .int .i64 (k:Int))]) (fun k=>[]) (fun k=>k<=s.length/\z=De_ s most (s.drop k)/\Ev_ (s.take k)=true) (fun k=>s.length-k) 0 ⟨rfl,trivial⟩ trivial ?_ ?_
  · exact⟨Nat.zero_le _,e6,rfl⟩
  rintro k ⟨hp7_1,hp7_2,hp7_3⟩;refine gx L_ 6 ?_;refine cnd rfl (fun h8=>?_) (fun h8=>?_)
  · have p9:=dt h8;have e10:=Di_ (f:=fun zz=>De_ s most zz) hp7_2 (Gs_ (by omega)) (De_.eq_2 _ _ _ _);have :=u8r (s.getD k 0);refine gx L_ 14 ?_;refine q1 (sidx L_ k rfl rfl rfl rfl rfl (by omega)) rfl fun w11=>?_;have :=u8r (s.getD k 0);refine gx L_ 4 ?_;refine q1g [31,32] rfl (fun hc=>sidx L_ k rfl rfl rfl rfl rfl (by first|omega|(simp only[gOf,bl2] at *;omega))) ⟨(fun hc=>hc),(fun hc=>hc),trivial⟩ rfl rfl rfl fun _=>?_;refine gy L_ 4 ?_;refine cE e10 (fun h12 e13=>?_) (fun h12 e18=>?_)
    · refine gx L_ 12 ?_;subst e13;exact qr2
    have h14:=orl h12;have p15:=df h14;have h16:=orr h12;have p17:=df h16;refine gy L_ 7 ?_;refine next (k+1) rfl rfl ⟨rfl,trivial⟩ trivial ?_ ?_
    · (try simp only[]);omega
    exact⟨by (try simp only[]);omega,e18,dig_step (by assumption) (by omega) (by assumption)⟩
  have p19:=df h8;have e20:=Di_ (f:=fun zz=>De_ s most zz) hp7_2 (Gt_ (by omega)) (De_.eq_1 _ _);refine gx L_ 8 ?_;refine call (strconv_PU _ _ _ (by rfl) (by rfl) (by omega) (by exact List.length_pos_iff.2 (by assumption)) (by exact dig_all (by assumption) (by omega))) rfl rfl fun w21=>?_;refine gx L_ 11 ?_;refine q1 (qnilN rfl Tryz.underlying422) rfl fun w22=>?_;refine gx L_ 1 ?_;refine ungd rfl rfl ?_;refine gx L_ 1 ?_;refine ungd rfl rfl ?_;refine gx L_ 1 ?_;refine ungd rfl rfl ?_;refine gx L_ 4 ?_;refine cD e20 (fun p24 e25=>?_) (fun p26 e27=>?_)
  · refine gx L_ 8 ?_;subst e25;exact qr2
  refine gx L_ 10 ?_;subst e27;exact qr2
theorem C9_ (s:Bs) (hl:s.length<=19:=by omega):Fn Tryz.prog gb 297 [.str s] (.tup [.int .i64 ((C8_ s).1), .int .i64 ((C8_ s).2)]):=by
  refine fC Tryz.func297 L_ Tryz.ntmps297 fun w N H hG=>?_;have s_l:s.length<=9223372036854775807:=w.1;have e0:=C8_.eq_1 s;refine gx L_ 9 ?_;refine cV e0 R24_ (Iv_ _ _) rfl fun r hr1 e3 w2=>?_;refine gx L_ 17 ?_;exact rt2 rfl rfl (Y_ (fun r:Int×Int=> .tup [.int .i64 r.1, .int .i64 r.2]) e3 (ple rfl))
theorem Cw_ (p:PolicyR) (s:Bs):Fn Tryz.prog gb 298 [.agg (PolicyR.pc p), .str s] (.tup [.int .i64 ((Aa_ p s).1), .int .i64 ((Aa_ p s).2)]):=by
  refine fC Tryz.func298 L_ Tryz.ntmps298 fun w N H hG=>?_;have p_places_l:p.places.length<=140737488355328:=w.1.2.2.1.1;have p_slots_l:p.slots.length<=140737488355328:=w.1.2.2.2.1.1;have p_grants_l:p.grants.length<=140737488355328:=w.1.2.2.2.2.1.1;have s_l:s.length<=9223372036854775807:=w.2.1;have e0:=Aa_.eq_1 p s;generalize Aa_ p s=z at e0 ⊢;refine gm L_ 12 [0] fun B2=>?_;refine cV e0 R0_ (Ea_ _ _) rfl fun r hr3 e5 w4=>?_;have hA5:=Uu_ p s
  (try rw[<- hr3] at hA5)
  refine gx L_ 9 ?_;refine cD e5 (fun p8 e9=>?_) (fun p10 e11=>?_)
  · refine gx L_ 9 ?_;subst e9;exact qr2
  refine gx L_ 9 ?_;subst e11;exact qr2
theorem Fh_ (s:Bs):Fn Tryz.prog gb 306 [.str s] (.tup [.agg (LabelR.pc ((D7_ s).1)), .int .i64 ((D7_ s).2)]):=by
  refine fC Tryz.func306 L_ Tryz.ntmps306 fun w N H hG=>?_;have s_l:s.length<=9223372036854775807:=w.1;have e0:=D7_.eq_1 s;generalize D7_ s=z at e0 ⊢;refine gm L_ 9 [0] fun B2=>?_;refine cV e0 R25_ (H9_ _ _) rfl fun r hr3 e5 w4=>?_;have hA5:=lnum_r s 15 (by omega)
  (try rw[<- hr3] at hA5)
  refine gx L_ 16 ?_;refine cN e5 (fun p9 e10=>?_) (fun p13 e14=>?_)
  · refine gm L_ 10 [] fun _=>?_;subst e10;exact qr2
  refine gm L_ 18 [1] fun B16=>?_;refine loop (ι:=Nat×Bs×Int×LabelR) [2,6] [0] (fun ⟨f,s1,last,x⟩=>[(0, .str s1),(7, .int .i64 last)]) (fun ⟨f,s1,last,x⟩=>[(1, .box (B16 0) 92 (LabelR.pc x))]) (fun ⟨f,s1,last,x⟩=>s1.length<f/\z=Fg_ f s1 last x/\True) (fun ⟨f,s1,last,x⟩=>f) ⟨(r.2.1.length+1),r.2.1,(-1),(⟨(IntKind.wrap .u8 r.1),0⟩:LabelR)⟩ ⟨rfl,rfl,trivial⟩ ⟨rfl,trivial⟩ ?_ ?_
  · exact⟨Nat.lt_succ_self _,e14,trivial⟩
  rintro⟨f,s1,last,x⟩ ⟨hp17_1,hp17_2,hp17_3⟩;obtain⟨f1,rfl⟩:∃ q,f=q+1:=⟨f-1,by omega⟩;have e_f1:=hp17_2.trans (Fg_.eq_2 _ _ _ _);refine gx L_ 8 ?_;refine cD e_f1 (fun p19 e20=>?_) (fun p49 e50=>?_)
  · have :=u8r (s1.getD 0 0);refine gx L_ 7 ?_;refine q1 (sidx L_ 0 rfl rfl rfl rfl rfl (by omega)) rfl fun w21=>?_;refine gx L_ 3 ?_;refine cN e20 (fun p24 e25=>?_) (fun p28 e29=>?_)
    · refine gm L_ 13 [] fun _=>?_;subst e25;exact qr2
    refine gx L_ 5 ?_;refine q1 (sslo L_ 1 rfl rfl rfl rfl rfl (by omega)) rfl fun w30=>?_;refine cV e29 R25_ (H9_ _ _) rfl fun r1 hr31 e33 w32=>?_;have hA33:=lnum_r (s1.drop 1) 31 (by omega)
    (try rw[<- hr31] at hA33)
    refine gx L_ 18 ?_;refine cN e33 (fun p37 e38=>?_) (fun p41 e42=>?_)
    · refine gm L_ 15 [] fun _=>?_;subst e38;exact qr2
    refine gx L_ 8 ?_;refine cD e42 (fun p44 e45=>?_) (fun p47 e48=>?_)
    · refine gm L_ 14 [] fun _=>?_;subst e45;exact qr2
    refine gx L_ 4 ?_;refine aN [2,3,4,5,6,7] 7 mixd ?_;have :=wr_u32 ((BitVec.ofInt (IntKind.bits .u32) x.set_ |||BitVec.ofInt (IntKind.bits .u32) (IntKind.wrap .u32 (1*2 ^ (min (r1.1:Int).toNat (IntKind.bits .u32))))).toNat)
    refine gXy L_ [0,1,2,3,4,5] 1 ?_;refine vT 6 rfl (sO L_ ?_);refine vD ?_;refine gx L_ 8 ?_;refine next ⟨f1,r1.2.1,r1.1,(⟨x.level,(IntKind.wrap .u32 ((BitVec.ofInt (IntKind.bits .u32) x.set_ |||BitVec.ofInt (IntKind.bits .u32) (IntKind.wrap .u32 (1*2 ^ (min (r1.1:Int).toNat (IntKind.bits .u32))))).toNat))⟩:LabelR)⟩ rfl rfl ⟨rfl,rfl,trivial⟩ ⟨rfl,trivial⟩ ?_ ?_
    · (try simp only[]);omega
    exact⟨(by simp only[List.length_drop] at *;omega),e48,trivial⟩
  refine gm L_ 13 [] fun _=>?_;subst e50;exact qr2
abbrev R26_:(List Bs)->PV:=fun r=> .sl strc r
abbrev R27_:(Int×Int)->PV:=fun r=> .tup [.int .i64 r.1, .int .i64 r.2]
abbrev R28_:(LabelR×Int)->PV:=fun r=> .tup [.agg (LabelR.pc r.1), .int .i64 r.2]
theorem cb248:Z_ Tryz.prog 248:=W_ Tryz.func248 (by kernel_rfl) (by kernel_rfl)
theorem cb299:Z_ Tryz.prog 299:=W_ Tryz.func299 (by kernel_rfl) (by kernel_rfl)
theorem cb300:Z_ Tryz.prog 300:=W_ Tryz.func300 (by kernel_rfl) (by kernel_rfl)
abbrev ty26v122:TI:=⟨.agg [(0,1),(1,1),(2,1),(3,1),(4,1)],5,88,[.int .i64 0, .int .i64 0, .val (.slice none 0 0), .val (.slice none 0 0), .val (.slice none 0 0)]⟩
def tbv122:Tb:=[(3,ty3),(9,ty9),(22,ty22),(23,ty23),(24,ty24),(26,ty26v122),(87,ty87),(92,ty92),(94,ty94),(244,Qu_)]
theorem H_:tbB Tryz.prog tbv122=true:=by kernel_rfl
theorem N3_ (s:Bs) (hs:plen s=true:=by first|assumption|decide +kernel):Fn Tryz.prog gb 179 [.str s] (.tup [.agg (PolicyR.pc ((Fp_ s).1)), .int .i64 ((Fp_ s).2.1), .int .i64 ((Fp_ s).2.2)]):=by
  refine fC Tryz.func179 H_ Tryz.ntmps179 fun w N H hG=>?_;have s_l:s.length<=9223372036854775807:=w.1;have hpl:=plen_ok hs;have hpl1:=hpl.1;have hcl:=Tf_ 10 s;have e0:=Fp_.eq_1 s;generalize Fp_ s=z at e0 ⊢;refine gm H_ 16 [0,1] fun B2=>?_;refine call (strings_SplitL _ _ (by rfl) (by omega)) rfl rfl fun w4=>?_;refine gx H_ 5 ?_;refine Op_ (i:=1) (o:=2) (k:=5) (e:=94) 2 PlaceR.pc rfl (by decide) rfl rfl ?_;refine Op_ (i:=1) (o:=3) (k:=1) (e:=3) 3 i64c rfl (by decide) rfl rfl ?_;refine Op_ (i:=1) (o:=4) (k:=3) (e:=87) 4 GrantR.pc rfl (by decide) rfl rfl ?_;refine loop (ι:=Nat×Int×Int×(List PlaceR)×(List Int)×(List GrantR)×Value×Value×Value) [2,5,12,13] [0] (fun ⟨k,work,give_,places,slots,grants,u_places,u_slots,u_grants⟩=>[(14, .int .i64 (k:Int))]) (fun ⟨k,work,give_,places,slots,grants,u_places,u_slots,u_grants⟩=>[(1, .box (B2 1) 26 [.int .i64 work, .int .i64 give_, .osl 2, .osl 3, .osl 4]),(2, .arr u_places 5 94 PlaceR.pc places),(3, .arr u_slots 1 3 i64c slots),(4, .arr u_grants 3 87 GrantR.pc grants)]) (fun ⟨k,work,give_,places,slots,grants,u_places,u_slots,u_grants⟩=>k<=(cuts 10 s).length/\z=Af_ ((cuts 10 s).drop k) k work give_ places slots grants/\places.length<=k/\slots.length<=k/\grants.length<=k) (fun ⟨k,work,give_,places,slots,grants,u_places,u_slots,u_grants⟩=>(cuts 10 s).length-k) ⟨0,0,0,[],[],[],(.slice none 0 0),(.slice none 0 0),(.slice none 0 0)⟩ ⟨rfl,trivial⟩ ⟨rfl,rfl,rfl,rfl,trivial⟩ ?_ ?_
  · exact⟨Nat.zero_le _,e0,⟨by simp,by simp,by simp⟩⟩
  rintro⟨k,work,give_,places,slots,grants,u_places,u_slots,u_grants⟩ ⟨hp5_1,hp5_2,hp5_3⟩;refine gx H_ 6 ?_;refine cnd rfl (fun h6=>?_) (fun h6=>?_)
  · have p7:=dt h6;have e8:=Di_ (f:=fun zz=>Af_ zz k work give_ places slots grants) hp5_2 (Gs_ (by omega)) (Af_.eq_2 _ _ _ _ _ _ _ _);have hc9:=getG (xs:=cuts 10 s) (k:=k) (by omega);have hz_hc9:=hpl.2 (gt (cuts 10 s) k) (List.mem_of_getElem? hc9);have hy_hc9:=hz_hc9.2.1;refine gx H_ 7 ?_;refine q1 (qidx H_ k rfl rfl rfl hc9 rfl rfl rfl rfl) rfl fun w10=>?_;refine gx H_ 8 ?_;refine cV e8 R26_ (N5_ _ (hn:=by assumption)) rfl fun r hr11 e13 w12=>?_;have hpw:=plen_w hs (show Go_ (gt (cuts 10 s) k)=r from by first|assumption|exact Eq.symm (by assumption)) (by assumption);have hpw0:0<r.length->0<(gt r 0).length/\(gt r 0).length<=19:=fun q=>hpw _ (Jb_ q);refine gx H_ 11 ?_;refine q1g [25] rfl (fun hc=>qidx H_ 0 rfl rfl rfl (getG (by first|omega|(simp only[gOf,bl2] at *;omega))) rfl rfl rfl rfl) ⟨(fun hc=>hc),trivial⟩ rfl rfl rfl fun _=>?_;have :=u8r ((gt r 0).getD 0 0);refine gy H_ 1 ?_;refine q1g [27] rfl (fun hc=>sidx H_ 0 rfl rfl rfl rfl rfl (by first|omega|(simp only[gOf,bl2] at *;omega))) ⟨(fun hc=>hc),trivial⟩ rfl rfl rfl fun _=>?_;refine gy H_ 4 ?_;refine cE e13 (fun h14 e15=>?_) (fun h14 e20=>?_)
    · refine gy H_ 8 ?_;refine next ⟨(k+1),work,give_,places,slots,grants,(u_places),(u_slots),(u_grants)⟩ rfl rfl ⟨rfl,trivial⟩ ⟨rfl,rfl,rfl,rfl,trivial⟩ ?_ ?_
      · (try simp only[]);omega
      exact⟨by (try simp only[]);omega,e15,⟨(by (try simp only[List.length_append,List.length_cons,List.length_nil]);omega),(by (try simp only[List.length_append,List.length_cons,List.length_nil]);omega),(by (try simp only[List.length_append,List.length_cons,List.length_nil]);omega)⟩⟩
    have h16:=orl h14;have p17:=df h16;have h18:=orr h14;have p19:=df h18;refine gx H_ 5 ?_;refine hinl [] H_ Tryz.func248 rfl Tryz.ntmps248 cb248 rfl rfl rfl rfl fun Hc21 hHc21=>?_;have hc22:=getG (xs:=r) (k:=0) (by omega);have hz_hc22:=hpw (gt r 0) (List.mem_of_getElem? hc22);refine gx H_ 14 ?_;refine q1 (qidx H_ 0 rfl rfl rfl hc22 rfl rfl rfl rfl) rfl fun w23=>?_;refine gx H_ 10 ?_;refine cE e20 (fun h24 e26=>?_) (fun h24 e141=>?_)
    · have p25:=dt h24;refine gx H_ 14 ?_;refine cN e26 (fun p29 e30=>?_) (fun p33 e34=>?_)
      · refine gx H_ 7 ?_;refine inlr rfl rfl rfl trivial ?_;refine gx H_ 9 ?_;refine cndT rfl (by decide) ?_;refine gmy H_ 17 [] fun _=>?_;subst e30;exact rt3 rfl rfl (Dl_ (A_ (D4_ (A_ (ple rfl) (A_ (ple rfl) (A_ M_ (A_ M_ (A_ M_ V_)))))) (A_ (ple rfl) (A_ (ple rfl) V_))))
      refine gx H_ 11 ?_;refine q1 (qidx H_ 0 rfl rfl rfl hc22 rfl rfl rfl rfl) rfl fun w35=>?_;refine gx H_ 10 ?_;refine cD e34 (fun p37 e38=>?_) (fun p53 e54=>?_)
      · have hc39:=getG (xs:=r) (k:=1) (by omega);have hz_hc39:=hpw (gt r 1) (List.mem_of_getElem? hc39);refine gx H_ 3 ?_;refine q1 (qidx H_ 1 rfl rfl rfl hc39 rfl rfl rfl rfl) rfl fun w40=>?_;refine gx H_ 1 ?_;refine cV e38 R27_ (C9_ _) rfl fun r1 hr41 e43 w42=>?_;refine gm H_ 17 [] fun _=>?_;refine inlr rfl rfl rfl trivial ?_;refine gx H_ 9 ?_;refine cN e43 (fun p47 e48=>?_) (fun p51 e52=>?_)
        · refine gmy H_ 17 [] fun _=>?_;subst e48;exact rt3 rfl rfl (Dl_ (A_ (D4_ (A_ (ple rfl) (A_ (ple rfl) (A_ M_ (A_ M_ (A_ M_ V_)))))) (A_ (ple rfl) (A_ (ple rfl) V_))))
        refine gy H_ 7 ?_;refine next ⟨(k+1),r1.1,give_,places,slots,grants,(u_places),(u_slots),(u_grants)⟩ rfl rfl ⟨rfl,trivial⟩ ⟨rfl,rfl,rfl,rfl,trivial⟩ ?_ ?_
        · (try simp only[]);omega
        exact⟨by (try simp only[]);omega,e52,⟨(by (try simp only[List.length_append,List.length_cons,List.length_nil]);omega),(by (try simp only[List.length_append,List.length_cons,List.length_nil]);omega),(by (try simp only[List.length_append,List.length_cons,List.length_nil]);omega)⟩⟩
      refine gx H_ 6 ?_;refine cD e54 (fun p56 e57=>?_) (fun p72 e73=>?_)
      · have hc58:=getG (xs:=r) (k:=1) (by omega);have hz_hc58:=hpw (gt r 1) (List.mem_of_getElem? hc58);refine gx H_ 3 ?_;refine q1 (qidx H_ 1 rfl rfl rfl hc58 rfl rfl rfl rfl) rfl fun w59=>?_;refine gx H_ 1 ?_;refine cV e57 R27_ (C9_ _) rfl fun r2 hr60 e62 w61=>?_;refine gm H_ 17 [] fun _=>?_;refine inlr rfl rfl rfl trivial ?_;refine gx H_ 9 ?_;refine cN e62 (fun p66 e67=>?_) (fun p70 e71=>?_)
        · refine gmy H_ 17 [] fun _=>?_;subst e67;exact rt3 rfl rfl (Dl_ (A_ (D4_ (A_ (ple rfl) (A_ (ple rfl) (A_ M_ (A_ M_ (A_ M_ V_)))))) (A_ (ple rfl) (A_ (ple rfl) V_))))
        refine gy H_ 7 ?_;refine next ⟨(k+1),work,r2.1,places,slots,grants,(u_places),(u_slots),(u_grants)⟩ rfl rfl ⟨rfl,trivial⟩ ⟨rfl,rfl,rfl,rfl,trivial⟩ ?_ ?_
        · (try simp only[]);omega
        exact⟨by (try simp only[]);omega,e71,⟨(by (try simp only[List.length_append,List.length_cons,List.length_nil]);omega),(by (try simp only[List.length_append,List.length_cons,List.length_nil]);omega),(by (try simp only[List.length_append,List.length_cons,List.length_nil]);omega)⟩⟩
      refine gx H_ 6 ?_;refine cD e73 (fun p75 e76=>?_) (fun p92 e93=>?_)
      · refine gx H_ 6 ?_;refine aN [5,6,7,8,9,10] 12 mixd ?_;refine gX H_ [0,1,2,3] 8 ?_;have hc77:=getG (xs:=r) (k:=1) (by omega);have hz_hc77:=hpw (gt r 1) (List.mem_of_getElem? hc77);refine vq 4 (qidx H_ 1 rfl rfl rfl hc77 rfl rfl rfl rfl) rfl (by kernel_rfl) rfl fun w78=>?_;refine gX H_ [5] 6 ?_;refine vE 6 rfl (Q6_ (Cw_ (⟨work,give_,places,slots,grants⟩:PolicyR) _) rfl rfl (.agg (.same _ (.same _ (.lend 2 rfl (.lend 3 rfl (.lend 4 rfl .nil))))) (.same _ .nil)) rfl ?_);generalize hr80:Aa_ (⟨work,give_,places,slots,grants⟩:PolicyR) (gt r 1)=r3;intro w79;have e81:=e76.trans (Fk_ hr80.symm);refine gX H_ [7,8,9,10,11] 0 ?_;refine vD ?_;refine gx H_ 8 ?_;refine ef (bsl 5 i64c [r3.1] H_ rfl rfl rfl rfl rfl (fun _=>rfl) rfl (by decide) (by decide) rfl fun u82=>?_);refine ef (app H_ [r3.1] rfl rfl rfl rfl rfl rfl rfl rfl rfl (src_o rfl rfl) (by first|omega|(simp;omega)) rfl fun u83=>?_);refine gx H_ 2 ?_;refine ef (Is_ H_ rfl rfl rfl rfl rfl rfl rfl rfl rfl ?_);refine gx H_ 10 ?_;refine inlr rfl rfl rfl trivial ?_;refine gx H_ 9 ?_;refine cN e81 (fun p86 e87=>?_) (fun p90 e91=>?_)
        · refine gmy H_ 17 [] fun _=>?_;subst e87;exact rt3 rfl rfl (Dl_ (A_ (D4_ (A_ (ple rfl) (A_ (ple rfl) (A_ M_ (A_ M_ (A_ M_ V_)))))) (A_ (ple rfl) (A_ (ple rfl) V_))))
        refine gy H_ 7 ?_;refine next ⟨(k+1),work,give_,places,(slots++[r3.1]),grants,(u_places),(u83),(u_grants)⟩ rfl rfl ⟨rfl,trivial⟩ ⟨rfl,rfl,rfl,rfl,trivial⟩ ?_ ?_
        · (try simp only[]);omega
        exact⟨by (try simp only[]);omega,e91,⟨(by (try simp only[List.length_append,List.length_cons,List.length_nil]);omega),(by (try simp only[List.length_append,List.length_cons,List.length_nil]);omega),(by (try simp only[List.length_append,List.length_cons,List.length_nil]);omega)⟩⟩
      refine gx H_ 6 ?_;refine cndT rfl h24 ?_;refine gx H_ 4 ?_;refine hinl [] H_ Tryz.func299 rfl Tryz.ntmps299 cb299 rfl rfl rfl rfl fun Hc94 hHc94=>?_;have hc95:=getG (xs:=r) (k:=2) (by omega);have hz_hc95:=hpw (gt r 2) (List.mem_of_getElem? hc95);refine gx H_ 8 ?_;refine q1 (qidx H_ 2 rfl rfl rfl hc95 rfl rfl rfl rfl) rfl fun w96=>?_;refine gx H_ 1 ?_;refine cV e93 R28_ (Fh_ _) rfl fun r4 hr97 e99 w98=>?_;refine gm H_ 15 [5] fun B101=>?_;refine cE e99 (fun h102 e105=>?_) (fun h102 e109=>?_)
      · have h103:=C7_ h102;have p104:=df h103;refine gx H_ 8 ?_;refine inlr rfl rfl rfl trivial ?_;refine gx H_ 6 ?_;refine inlr rfl rfl rfl trivial ?_;refine gx H_ 9 ?_;refine cndT rfl h102 ?_;refine gmy H_ 17 [] fun _=>?_;subst e105;exact rt3 rfl rfl (Dl_ (A_ (D4_ (A_ (ple rfl) (A_ (ple rfl) (A_ M_ (A_ M_ (A_ M_ V_)))))) (A_ (ple rfl) (A_ (ple rfl) V_))))
      have h107:=Dd_ h102;have p108:=dt h107;have hc110:=getG (xs:=r) (k:=3) (by omega);have hz_hc110:=hpw (gt r 3) (List.mem_of_getElem? hc110);refine gx H_ 5 ?_;refine q1 (qidx H_ 3 rfl rfl rfl hc110 rfl rfl rfl rfl) rfl fun w111=>?_;refine gx H_ 1 ?_;refine cV e109 R27_ (C9_ _) rfl fun r5 hr112 e114 w113=>?_;refine gx H_ 14 ?_;refine cE e114 (fun h115 e118=>?_) (fun h115 e122=>?_)
      · have h116:=C7_ h115;have p117:=df h116;refine gx H_ 8 ?_;refine inlr rfl rfl rfl trivial ?_;refine gx H_ 6 ?_;refine inlr rfl rfl rfl trivial ?_;refine gx H_ 9 ?_;refine cndT rfl h115 ?_;refine gmy H_ 17 [] fun _=>?_;subst e118;exact rt3 rfl rfl (Dl_ (A_ (D4_ (A_ (ple rfl) (A_ (ple rfl) (A_ M_ (A_ M_ (A_ M_ V_)))))) (A_ (ple rfl) (A_ (ple rfl) V_))))
      have h120:=Dd_ h115;have p121:=dt h120;have hc123:=getG (xs:=r) (k:=4) (by omega);have hz_hc123:=hpw (gt r 4) (List.mem_of_getElem? hc123);refine gx H_ 5 ?_;refine q1 (qidx H_ 4 rfl rfl rfl hc123 rfl rfl rfl rfl) rfl fun w124=>?_;refine gx H_ 1 ?_;refine cV e122 R24_ (Iv_ _ _) rfl fun r6 hr125 e127 w126=>?_;refine gx H_ 8 ?_;refine aN [2,6,7,8,9,10,11] 17 mixd ?_;refine gX H_ [0,1,2,3,4,5] 11 ?_;have hc128:=getG (xs:=r) (k:=1) (by omega);have hz_hc128:=hpw (gt r 1) (List.mem_of_getElem? hc128);refine vq 6 (qidx H_ 1 rfl rfl rfl hc128 rfl rfl rfl rfl) rfl (by kernel_rfl) rfl fun w129=>?_;refine gX H_ [7,8,9,10,11] 5 ?_;refine vE 12 rfl (bsl 6 PlaceR.pc [(⟨(gt r 1),r4.1,r5.1,r6.1⟩:PlaceR)] H_ rfl rfl rfl rfl rfl (fun _=>rfl) rfl (by decide) (by decide) rfl fun u130=>?_);refine vE 13 rfl (app H_ [(⟨(gt r 1),r4.1,r5.1,r6.1⟩:PlaceR)] rfl rfl rfl rfl rfl rfl rfl rfl rfl (src_o rfl rfl) (by first|omega|(simp;omega)) rfl fun u131=>?_);refine gX H_ [14,15] 1 ?_;refine vtp 16 rfl (by kernel_rfl) (by kernel_rfl) (Is_ H_ rfl rfl rfl rfl rfl rfl rfl rfl rfl ?_);refine vD ?_;refine gx H_ 8 ?_;refine inlr rfl rfl rfl trivial ?_;refine gx H_ 6 ?_;refine inlr rfl rfl rfl trivial ?_;refine gx H_ 9 ?_;refine cN e127 (fun p134 e135=>?_) (fun p138 e139=>?_)
      · refine gmy H_ 17 [] fun _=>?_;subst e135;exact rt3 rfl rfl (Dl_ (A_ (D4_ (A_ (ple rfl) (A_ (ple rfl) (A_ M_ (A_ M_ (A_ M_ V_)))))) (A_ (ple rfl) (A_ (ple rfl) V_))))
      refine gy H_ 7 ?_;refine next ⟨(k+1),work,give_,(places++[(⟨(gt r 1),r4.1,r5.1,r6.1⟩:PlaceR)]),slots,grants,(u131),(u_slots),(u_grants)⟩ rfl rfl ⟨rfl,trivial⟩ ⟨rfl,rfl,rfl,rfl,trivial⟩ ?_ ?_
      · (try simp only[]);omega
      exact⟨by (try simp only[]);omega,e139,⟨(by (try simp only[List.length_append,List.length_cons,List.length_nil]);omega),(by (try simp only[List.length_append,List.length_cons,List.length_nil]);omega),(by (try simp only[List.length_append,List.length_cons,List.length_nil]);omega)⟩⟩
    have p140:=df h24;refine gx H_ 6 ?_;refine cD e141 (fun p143 e144=>?_) (fun p254 e255=>?_)
    · refine gx H_ 14 ?_;refine cN e144 (fun p147 e148=>?_) (fun p151 e152=>?_)
      · refine gx H_ 7 ?_;refine inlr rfl rfl rfl trivial ?_;refine gx H_ 9 ?_;refine cndT rfl (by decide) ?_;refine gmy H_ 17 [] fun _=>?_;subst e148;exact rt3 rfl rfl (Dl_ (A_ (D4_ (A_ (ple rfl) (A_ (ple rfl) (A_ M_ (A_ M_ (A_ M_ V_)))))) (A_ (ple rfl) (A_ (ple rfl) V_))))
      refine gx H_ 11 ?_;refine q1 (qidx H_ 0 rfl rfl rfl hc22 rfl rfl rfl rfl) rfl fun w153=>?_;refine gx H_ 10 ?_;refine cD e152 (fun p155 e156=>?_) (fun p171 e172=>?_)
      · have hc157:=getG (xs:=r) (k:=1) (by omega);have hz_hc157:=hpw (gt r 1) (List.mem_of_getElem? hc157);refine gx H_ 3 ?_;refine q1 (qidx H_ 1 rfl rfl rfl hc157 rfl rfl rfl rfl) rfl fun w158=>?_;refine gx H_ 1 ?_;refine cV e156 R27_ (C9_ _) rfl fun r7 hr159 e161 w160=>?_;refine gm H_ 17 [] fun _=>?_;refine inlr rfl rfl rfl trivial ?_;refine gx H_ 9 ?_;refine cN e161 (fun p165 e166=>?_) (fun p169 e170=>?_)
        · refine gmy H_ 17 [] fun _=>?_;subst e166;exact rt3 rfl rfl (Dl_ (A_ (D4_ (A_ (ple rfl) (A_ (ple rfl) (A_ M_ (A_ M_ (A_ M_ V_)))))) (A_ (ple rfl) (A_ (ple rfl) V_))))
        refine gy H_ 7 ?_;refine next ⟨(k+1),r7.1,give_,places,slots,grants,(u_places),(u_slots),(u_grants)⟩ rfl rfl ⟨rfl,trivial⟩ ⟨rfl,rfl,rfl,rfl,trivial⟩ ?_ ?_
        · (try simp only[]);omega
        exact⟨by (try simp only[]);omega,e170,⟨(by (try simp only[List.length_append,List.length_cons,List.length_nil]);omega),(by (try simp only[List.length_append,List.length_cons,List.length_nil]);omega),(by (try simp only[List.length_append,List.length_cons,List.length_nil]);omega)⟩⟩
      refine gx H_ 6 ?_;refine cD e172 (fun p174 e175=>?_) (fun p190 e191=>?_)
      · have hc176:=getG (xs:=r) (k:=1) (by omega);have hz_hc176:=hpw (gt r 1) (List.mem_of_getElem? hc176);refine gx H_ 3 ?_;refine q1 (qidx H_ 1 rfl rfl rfl hc176 rfl rfl rfl rfl) rfl fun w177=>?_;refine gx H_ 1 ?_;refine cV e175 R27_ (C9_ _) rfl fun r8 hr178 e180 w179=>?_;refine gm H_ 17 [] fun _=>?_;refine inlr rfl rfl rfl trivial ?_;refine gx H_ 9 ?_;refine cN e180 (fun p184 e185=>?_) (fun p188 e189=>?_)
        · refine gmy H_ 17 [] fun _=>?_;subst e185;exact rt3 rfl rfl (Dl_ (A_ (D4_ (A_ (ple rfl) (A_ (ple rfl) (A_ M_ (A_ M_ (A_ M_ V_)))))) (A_ (ple rfl) (A_ (ple rfl) V_))))
        refine gy H_ 7 ?_;refine next ⟨(k+1),work,r8.1,places,slots,grants,(u_places),(u_slots),(u_grants)⟩ rfl rfl ⟨rfl,trivial⟩ ⟨rfl,rfl,rfl,rfl,trivial⟩ ?_ ?_
        · (try simp only[]);omega
        exact⟨by (try simp only[]);omega,e189,⟨(by (try simp only[List.length_append,List.length_cons,List.length_nil]);omega),(by (try simp only[List.length_append,List.length_cons,List.length_nil]);omega),(by (try simp only[List.length_append,List.length_cons,List.length_nil]);omega)⟩⟩
      refine gx H_ 6 ?_;refine cD e191 (fun p193 e194=>?_) (fun p210 e211=>?_)
      · refine gx H_ 6 ?_;refine aN [5,6,7,8,9,10] 12 mixd ?_;refine gX H_ [0,1,2,3] 8 ?_;have hc195:=getG (xs:=r) (k:=1) (by omega);have hz_hc195:=hpw (gt r 1) (List.mem_of_getElem? hc195);refine vq 4 (qidx H_ 1 rfl rfl rfl hc195 rfl rfl rfl rfl) rfl (by kernel_rfl) rfl fun w196=>?_;refine gX H_ [5] 6 ?_;refine vE 6 rfl (Q6_ (Cw_ (⟨work,give_,places,slots,grants⟩:PolicyR) _) rfl rfl (.agg (.same _ (.same _ (.lend 2 rfl (.lend 3 rfl (.lend 4 rfl .nil))))) (.same _ .nil)) rfl ?_);generalize hr198:Aa_ (⟨work,give_,places,slots,grants⟩:PolicyR) (gt r 1)=r9;intro w197;have e199:=e194.trans (Fk_ hr198.symm);refine gX H_ [7,8,9,10,11] 0 ?_;refine vD ?_;refine gx H_ 8 ?_;refine ef (bsl 5 i64c [r9.1] H_ rfl rfl rfl rfl rfl (fun _=>rfl) rfl (by decide) (by decide) rfl fun u200=>?_);refine ef (app H_ [r9.1] rfl rfl rfl rfl rfl rfl rfl rfl rfl (src_o rfl rfl) (by first|omega|(simp;omega)) rfl fun u201=>?_);refine gx H_ 2 ?_;refine ef (Is_ H_ rfl rfl rfl rfl rfl rfl rfl rfl rfl ?_);refine gx H_ 10 ?_;refine inlr rfl rfl rfl trivial ?_;refine gx H_ 9 ?_;refine cN e199 (fun p204 e205=>?_) (fun p208 e209=>?_)
        · refine gmy H_ 17 [] fun _=>?_;subst e205;exact rt3 rfl rfl (Dl_ (A_ (D4_ (A_ (ple rfl) (A_ (ple rfl) (A_ M_ (A_ M_ (A_ M_ V_)))))) (A_ (ple rfl) (A_ (ple rfl) V_))))
        refine gy H_ 7 ?_;refine next ⟨(k+1),work,give_,places,(slots++[r9.1]),grants,(u_places),(u201),(u_grants)⟩ rfl rfl ⟨rfl,trivial⟩ ⟨rfl,rfl,rfl,rfl,trivial⟩ ?_ ?_
        · (try simp only[]);omega
        exact⟨by (try simp only[]);omega,e209,⟨(by (try simp only[List.length_append,List.length_cons,List.length_nil]);omega),(by (try simp only[List.length_append,List.length_cons,List.length_nil]);omega),(by (try simp only[List.length_append,List.length_cons,List.length_nil]);omega)⟩⟩
      refine gx H_ 6 ?_;refine cndF rfl h24 ?_;refine gx H_ 4 ?_;refine hinl [] H_ Tryz.func300 rfl Tryz.ntmps300 cb300 rfl rfl rfl rfl fun Hc212 hHc212=>?_;refine gx H_ 6 ?_;refine aN [5,6,7,8,9,10] 12 mixd ?_;refine gX H_ [0,1,2,3] 8 ?_;have hc213:=getG (xs:=r) (k:=1) (by omega);have hz_hc213:=hpw (gt r 1) (List.mem_of_getElem? hc213);refine vq 4 (qidx H_ 1 rfl rfl rfl hc213 rfl rfl rfl rfl) rfl (by kernel_rfl) rfl fun w214=>?_;refine gX H_ [5] 6 ?_;refine vE 6 rfl (Q6_ (Cw_ (⟨work,give_,places,slots,grants⟩:PolicyR) _) rfl rfl (.agg (.same _ (.same _ (.lend 2 rfl (.lend 3 rfl (.lend 4 rfl .nil))))) (.same _ .nil)) rfl ?_);generalize hr216:Aa_ (⟨work,give_,places,slots,grants⟩:PolicyR) (gt r 1)=r10;intro w215;have e217:=e211.trans (Fk_ hr216.symm);refine gX H_ [7,8,9,10,11] 0 ?_;refine vD ?_;refine gx H_ 8 ?_;refine cE e217 (fun h218 e221=>?_) (fun h218 e225=>?_)
      · have h219:=C7_ h218;have p220:=df h219;refine gx H_ 8 ?_;refine inlr rfl rfl rfl trivial ?_;refine gx H_ 6 ?_;refine inlr rfl rfl rfl trivial ?_;refine gx H_ 9 ?_;refine cndT rfl h218 ?_;refine gmy H_ 17 [] fun _=>?_;subst e221;exact rt3 rfl rfl (Dl_ (A_ (D4_ (A_ (ple rfl) (A_ (ple rfl) (A_ M_ (A_ M_ (A_ M_ V_)))))) (A_ (ple rfl) (A_ (ple rfl) V_))))
      have h223:=Dd_ h218;have p224:=dt h223;refine gx H_ 3 ?_;refine aN [5,6,7,8,9,10] 12 mixd ?_;refine gX H_ [0,1,2,3] 8 ?_;have hc226:=getG (xs:=r) (k:=2) (by omega);have hz_hc226:=hpw (gt r 2) (List.mem_of_getElem? hc226);refine vq 4 (qidx H_ 2 rfl rfl rfl hc226 rfl rfl rfl rfl) rfl (by kernel_rfl) rfl fun w227=>?_;refine gX H_ [5] 6 ?_;refine vE 6 rfl (Q6_ (Cw_ (⟨work,give_,places,slots,grants⟩:PolicyR) _) rfl rfl (.agg (.same _ (.same _ (.lend 2 rfl (.lend 3 rfl (.lend 4 rfl .nil))))) (.same _ .nil)) rfl ?_);generalize hr229:Aa_ (⟨work,give_,places,slots,grants⟩:PolicyR) (gt r 2)=r11;intro w228;have e230:=e225.trans (Fk_ hr229.symm);refine gX H_ [7,8,9,10,11] 0 ?_;refine vD ?_;refine gx H_ 8 ?_;refine cE e230 (fun h231 e234=>?_) (fun h231 e238=>?_)
      · have h232:=C7_ h231;have p233:=df h232;refine gx H_ 8 ?_;refine inlr rfl rfl rfl trivial ?_;refine gx H_ 6 ?_;refine inlr rfl rfl rfl trivial ?_;refine gx H_ 9 ?_;refine cndT rfl h231 ?_;refine gmy H_ 17 [] fun _=>?_;subst e234;exact rt3 rfl rfl (Dl_ (A_ (D4_ (A_ (ple rfl) (A_ (ple rfl) (A_ M_ (A_ M_ (A_ M_ V_)))))) (A_ (ple rfl) (A_ (ple rfl) V_))))
      have h236:=Dd_ h231;have p237:=dt h236;have hc239:=getG (xs:=r) (k:=3) (by omega);have hz_hc239:=hpw (gt r 3) (List.mem_of_getElem? hc239);refine gx H_ 5 ?_;refine q1 (qidx H_ 3 rfl rfl rfl hc239 rfl rfl rfl rfl) rfl fun w240=>?_;refine gx H_ 1 ?_;refine cV e238 R27_ (C9_ _) rfl fun r12 hr241 e243 w242=>?_;refine gx H_ 18 ?_;refine ef (bsl 5 GrantR.pc [(⟨r10.1,r11.1,r12.1⟩:GrantR)] H_ rfl rfl rfl rfl rfl (fun _=>rfl) rfl (by decide) (by decide) rfl fun u244=>?_);refine ef (app H_ [(⟨r10.1,r11.1,r12.1⟩:GrantR)] rfl rfl rfl rfl rfl rfl rfl rfl rfl (src_o rfl rfl) (by first|omega|(simp;omega)) rfl fun u245=>?_);refine gx H_ 2 ?_;refine ef (Is_ H_ rfl rfl rfl rfl rfl rfl rfl rfl rfl ?_);refine gx H_ 9 ?_;refine inlr rfl rfl rfl trivial ?_;refine gx H_ 6 ?_;refine inlr rfl rfl rfl trivial ?_;refine gx H_ 9 ?_;refine cN e243 (fun p248 e249=>?_) (fun p252 e253=>?_)
      · refine gmy H_ 17 [] fun _=>?_;subst e249;exact rt3 rfl rfl (Dl_ (A_ (D4_ (A_ (ple rfl) (A_ (ple rfl) (A_ M_ (A_ M_ (A_ M_ V_)))))) (A_ (ple rfl) (A_ (ple rfl) V_))))
      refine gy H_ 7 ?_;refine next ⟨(k+1),work,give_,places,slots,(grants++[(⟨r10.1,r11.1,r12.1⟩:GrantR)]),(u_places),(u_slots),(u245)⟩ rfl rfl ⟨rfl,trivial⟩ ⟨rfl,rfl,rfl,rfl,trivial⟩ ?_ ?_
      · (try simp only[]);omega
      exact⟨by (try simp only[]);omega,e253,⟨(by (try simp only[List.length_append,List.length_cons,List.length_nil]);omega),(by (try simp only[List.length_append,List.length_cons,List.length_nil]);omega),(by (try simp only[List.length_append,List.length_cons,List.length_nil]);omega)⟩⟩
    refine gx H_ 7 ?_;refine cE e255 (fun h256 e258=>?_) (fun h256 e283=>?_)
    · have p257:=dt h256;refine gx H_ 2 ?_;refine cndT rfl h256 ?_;refine gx H_ 12 ?_;refine cN e258 (fun p261 e262=>?_) (fun p265 e266=>?_)
      · refine gx H_ 7 ?_;refine inlr rfl rfl rfl trivial ?_;refine gx H_ 9 ?_;refine cndT rfl (by decide) ?_;refine gmy H_ 17 [] fun _=>?_;subst e262;exact rt3 rfl rfl (Dl_ (A_ (D4_ (A_ (ple rfl) (A_ (ple rfl) (A_ M_ (A_ M_ (A_ M_ V_)))))) (A_ (ple rfl) (A_ (ple rfl) V_))))
      refine gx H_ 11 ?_;refine q1 (qidx H_ 0 rfl rfl rfl hc22 rfl rfl rfl rfl) rfl fun w267=>?_;refine gx H_ 10 ?_;refine cndT rfl h256 ?_;have hc268:=getG (xs:=r) (k:=1) (by omega);have hz_hc268:=hpw (gt r 1) (List.mem_of_getElem? hc268);refine gx H_ 3 ?_;refine q1 (qidx H_ 1 rfl rfl rfl hc268 rfl rfl rfl rfl) rfl fun w269=>?_;refine gx H_ 1 ?_;refine cV e266 R27_ (C9_ _) rfl fun r13 hr270 e272 w271=>?_;refine gm H_ 17 [] fun _=>?_;refine inlr rfl rfl rfl trivial ?_;refine gx H_ 9 ?_;refine cN e272 (fun p276 e277=>?_) (fun p280 e281=>?_)
      · refine gmy H_ 17 [] fun _=>?_;subst e277;exact rt3 rfl rfl (Dl_ (A_ (D4_ (A_ (ple rfl) (A_ (ple rfl) (A_ M_ (A_ M_ (A_ M_ V_)))))) (A_ (ple rfl) (A_ (ple rfl) V_))))
      refine gy H_ 7 ?_;refine next ⟨(k+1),r13.1,give_,places,slots,grants,(u_places),(u_slots),(u_grants)⟩ rfl rfl ⟨rfl,trivial⟩ ⟨rfl,rfl,rfl,rfl,trivial⟩ ?_ ?_
      · (try simp only[]);omega
      exact⟨by (try simp only[]);omega,e281,⟨(by (try simp only[List.length_append,List.length_cons,List.length_nil]);omega),(by (try simp only[List.length_append,List.length_cons,List.length_nil]);omega),(by (try simp only[List.length_append,List.length_cons,List.length_nil]);omega)⟩⟩
    have p282:=df h256;refine gx H_ 6 ?_;refine cE e283 (fun h284 e286=>?_) (fun h284 e311=>?_)
    · have p285:=dt h284;refine gx H_ 2 ?_;refine cndT rfl h284 ?_;refine gx H_ 12 ?_;refine cN e286 (fun p289 e290=>?_) (fun p293 e294=>?_)
      · refine gx H_ 7 ?_;refine inlr rfl rfl rfl trivial ?_;refine gx H_ 9 ?_;refine cndT rfl (by decide) ?_;refine gmy H_ 17 [] fun _=>?_;subst e290;exact rt3 rfl rfl (Dl_ (A_ (D4_ (A_ (ple rfl) (A_ (ple rfl) (A_ M_ (A_ M_ (A_ M_ V_)))))) (A_ (ple rfl) (A_ (ple rfl) V_))))
      refine gx H_ 11 ?_;refine q1 (qidx H_ 0 rfl rfl rfl hc22 rfl rfl rfl rfl) rfl fun w295=>?_;refine gx H_ 10 ?_;refine cndF rfl h256 ?_;refine gx H_ 6 ?_;refine cndT rfl h284 ?_;have hc296:=getG (xs:=r) (k:=1) (by omega);have hz_hc296:=hpw (gt r 1) (List.mem_of_getElem? hc296);refine gx H_ 3 ?_;refine q1 (qidx H_ 1 rfl rfl rfl hc296 rfl rfl rfl rfl) rfl fun w297=>?_;refine gx H_ 1 ?_;refine cV e294 R27_ (C9_ _) rfl fun r14 hr298 e300 w299=>?_;refine gm H_ 17 [] fun _=>?_;refine inlr rfl rfl rfl trivial ?_;refine gx H_ 9 ?_;refine cN e300 (fun p304 e305=>?_) (fun p308 e309=>?_)
      · refine gmy H_ 17 [] fun _=>?_;subst e305;exact rt3 rfl rfl (Dl_ (A_ (D4_ (A_ (ple rfl) (A_ (ple rfl) (A_ M_ (A_ M_ (A_ M_ V_)))))) (A_ (ple rfl) (A_ (ple rfl) V_))))
      refine gy H_ 7 ?_;refine next ⟨(k+1),work,r14.1,places,slots,grants,(u_places),(u_slots),(u_grants)⟩ rfl rfl ⟨rfl,trivial⟩ ⟨rfl,rfl,rfl,rfl,trivial⟩ ?_ ?_
      · (try simp only[]);omega
      exact⟨by (try simp only[]);omega,e309,⟨(by (try simp only[List.length_append,List.length_cons,List.length_nil]);omega),(by (try simp only[List.length_append,List.length_cons,List.length_nil]);omega),(by (try simp only[List.length_append,List.length_cons,List.length_nil]);omega)⟩⟩
    have p310:=df h284;refine gx H_ 5 ?_;refine cE e311 (fun h312 e314=>?_) (fun h312 e340=>?_)
    · have p313:=dt h312;refine gx H_ 12 ?_;refine cN e314 (fun p317 e318=>?_) (fun p321 e322=>?_)
      · refine gx H_ 7 ?_;refine inlr rfl rfl rfl trivial ?_;refine gx H_ 9 ?_;refine cndT rfl (by decide) ?_;refine gmy H_ 17 [] fun _=>?_;subst e318;exact rt3 rfl rfl (Dl_ (A_ (D4_ (A_ (ple rfl) (A_ (ple rfl) (A_ M_ (A_ M_ (A_ M_ V_)))))) (A_ (ple rfl) (A_ (ple rfl) V_))))
      refine gx H_ 11 ?_;refine q1 (qidx H_ 0 rfl rfl rfl hc22 rfl rfl rfl rfl) rfl fun w323=>?_;refine gx H_ 10 ?_;refine cndF rfl h256 ?_;refine gx H_ 6 ?_;refine cndF rfl h284 ?_;refine gx H_ 6 ?_;refine cndT rfl h312 ?_;refine gx H_ 6 ?_;refine aN [5,6,7,8,9,10] 12 mixd ?_;refine gX H_ [0,1,2,3] 8 ?_;have hc324:=getG (xs:=r) (k:=1) (by omega);have hz_hc324:=hpw (gt r 1) (List.mem_of_getElem? hc324);refine vq 4 (qidx H_ 1 rfl rfl rfl hc324 rfl rfl rfl rfl) rfl (by kernel_rfl) rfl fun w325=>?_;refine gX H_ [5] 6 ?_;refine vE 6 rfl (Q6_ (Cw_ (⟨work,give_,places,slots,grants⟩:PolicyR) _) rfl rfl (.agg (.same _ (.same _ (.lend 2 rfl (.lend 3 rfl (.lend 4 rfl .nil))))) (.same _ .nil)) rfl ?_);generalize hr327:Aa_ (⟨work,give_,places,slots,grants⟩:PolicyR) (gt r 1)=r15;intro w326;have e328:=e322.trans (Fk_ hr327.symm);refine gX H_ [7,8,9,10,11] 0 ?_;refine vD ?_;refine gx H_ 8 ?_;refine ef (bsl 5 i64c [r15.1] H_ rfl rfl rfl rfl rfl (fun _=>rfl) rfl (by decide) (by decide) rfl fun u329=>?_);refine ef (app H_ [r15.1] rfl rfl rfl rfl rfl rfl rfl rfl rfl (src_o rfl rfl) (by first|omega|(simp;omega)) rfl fun u330=>?_);refine gx H_ 2 ?_;refine ef (Is_ H_ rfl rfl rfl rfl rfl rfl rfl rfl rfl ?_);refine gx H_ 10 ?_;refine inlr rfl rfl rfl trivial ?_;refine gx H_ 9 ?_;refine cN e328 (fun p333 e334=>?_) (fun p337 e338=>?_)
      · refine gmy H_ 17 [] fun _=>?_;subst e334;exact rt3 rfl rfl (Dl_ (A_ (D4_ (A_ (ple rfl) (A_ (ple rfl) (A_ M_ (A_ M_ (A_ M_ V_)))))) (A_ (ple rfl) (A_ (ple rfl) V_))))
      refine gy H_ 7 ?_;refine next ⟨(k+1),work,give_,places,(slots++[r15.1]),grants,(u_places),(u330),(u_grants)⟩ rfl rfl ⟨rfl,trivial⟩ ⟨rfl,rfl,rfl,rfl,trivial⟩ ?_ ?_
      · (try simp only[]);omega
      exact⟨by (try simp only[]);omega,e338,⟨(by (try simp only[List.length_append,List.length_cons,List.length_nil]);omega),(by (try simp only[List.length_append,List.length_cons,List.length_nil]);omega),(by (try simp only[List.length_append,List.length_cons,List.length_nil]);omega)⟩⟩
    have p339:=df h312;refine gx H_ 8 ?_;refine inlr rfl rfl rfl trivial ?_;refine gx H_ 9 ?_;refine cndT rfl (by decide) ?_;refine gmy H_ 17 [] fun _=>?_;subst e340;exact rt3 rfl rfl (Dl_ (A_ (D4_ (A_ (ple rfl) (A_ (ple rfl) (A_ M_ (A_ M_ (A_ M_ V_)))))) (A_ (ple rfl) (A_ (ple rfl) V_))))
  have p342:=df h6;have e343:=Di_ (f:=fun zz=>Af_ zz k work give_ places slots grants) hp5_2 (Gt_ (by omega)) (Af_.eq_1 _ _ _ _ _ _);refine gx H_ 8 ?_;refine give 2 rfl ?_;refine give 3 rfl ?_;refine give 4 rfl ?_;refine gx H_ 1 ?_;refine cV e343 R0_ (Ix_ (⟨work,give_,places,slots,grants⟩:PolicyR)) rfl fun r16 hr344 e346 w345=>?_;refine gx H_ 9 ?_;refine cN e346 (fun p349 e350=>?_) (fun p353 e354=>?_)
  · refine gm H_ 11 [] fun _=>?_;subst e350;exact rt3 rfl rfl (Dl_ (A_ (D4_ (A_ (ple rfl) (A_ (ple rfl) (A_ M_ (A_ M_ (A_ M_ V_)))))) (A_ (ple rfl) (A_ (ple rfl) V_))))
  refine gm H_ 11 [] fun _=>?_;subst e354;exact qr3
abbrev R29_:(PolicyR×Int×Int)->PV:=fun r=> .tup [.agg (PolicyR.pc r.1), .int .i64 r.2.1, .int .i64 r.2.2]
abbrev R30_:(NoteR×Bool)->PV:=fun r=> .tup [.agg (NoteR.pc r.1), .bool r.2]
abbrev R31_:(RiseR×Int)->PV:=fun r=> .tup [.agg (RiseR.pc r.1), .int .i64 r.2]
abbrev R32_:(Int×Mail×Bool)->PV:=fun r=> .tup [.int .u64 r.1, .agg (Mail.pc r.2.1), .bool r.2.2]
def tbv125:Tb:=[(3,ty3),(5,ty5),(22,ty22),(26,ty26),(36,ty36),(40,ty40),(43,ty43),(46,ty46),(60,ty60),(65,ty65),(75,ty75),(92,ty92),(94,ty94),(102,Wz_),(160,ty160)]
theorem Bk_:tbB Tryz.prog tbv125=true:=by kernel_rfl
theorem Rl_:Fn Tryz.prog gb 250 [] (.bool (Ne_)):=by
  refine fC Tryz.func250 Bk_ Tryz.ntmps250 fun w N H hG=>?_;have e0:=Ne_.eq_1;refine gx Bk_ 7 ?_;refine cV e0 R28_ (Fh_ _) rfl fun r hr1 e3 w2=>?_;refine gm Bk_ 10 [0] fun B5=>?_;refine cV e3 R28_ (Fh_ _) rfl fun r1 hr6 e8 w7=>?_;refine gm Bk_ 10 [1] fun B10=>?_;refine cV e8 R28_ (Fh_ _) rfl fun r2 hr11 e13 w12=>?_;refine gm Bk_ 10 [2] fun B15=>?_;refine call Nc_ rfl rfl fun w16=>?_;refine gx Bk_ 1 ?_;refine ungd rfl rfl ?_;refine gx Bk_ 1 ?_;refine ungd rfl rfl ?_;refine gy Bk_ 13 ?_;refine callg rfl (fun hc=>(En_ _ _)) rfl ⟨(fun hc=>hc),(fun hc=>hc),trivial⟩ rfl rfl fun _=>?_;refine gy Bk_ 4 ?_;refine callg rfl (fun hc=>(En_ _ _)) rfl ⟨(fun hc=>hc),(fun hc=>hc),trivial⟩ rfl rfl fun _=>?_;refine gy Bk_ 5 ?_;refine callg rfl (fun hc=>(En_ _ _)) rfl ⟨(fun hc=>hc),(fun hc=>hc),trivial⟩ rfl rfl fun _=>?_;refine gy Bk_ 6 ?_;exact rt1 rfl rfl (Y_ (fun r:Bool=> .bool r) e13 (ple rfl))
theorem Rk_:Fn Tryz.prog gb 180 [] (.bool (Nd_)):=by
  refine fC Tryz.func180 Bk_ Tryz.ntmps180 fun w N H hG=>?_;have e0:=Nd_.eq_1;refine gx Bk_ 7 ?_;refine call Rl_ rfl rfl fun w1=>?_;refine gx Bk_ 4 ?_;exact rt1 rfl rfl (Y_ (fun r:Bool=> .bool r) e0 (ple rfl))
theorem Rp_:Fn Tryz.prog gb 101 [] (.bool (Ng_)):=by
  refine fC Tryz.func101 Bk_ Tryz.ntmps101 fun w N H hG=>?_;have e0:=Ng_.eq_1;refine gx Bk_ 7 ?_;refine cV e0 R29_ (N3_ _ (hs:=by exact plen05)) rfl fun r hr1 e3 w2=>?_;refine gm Bk_ 12 [0] fun B5=>?_;refine call Rk_ rfl rfl fun w6=>?_;refine gx Bk_ 1 ?_;refine callg rfl (fun hc=>I3_) rfl trivial rfl rfl fun _=>?_;refine gy Bk_ 23 ?_;refine q1g [34] rfl (fun hc=>qidx Bk_ 0 rfl rfl rfl (getG (by first|omega|(simp only[gOf,bl2] at *;omega))) rfl rfl rfl rfl) ⟨(fun hc=>hc),trivial⟩ rfl rfl rfl fun _=>?_;refine gy Bk_ 8 ?_;exact rt1 rfl rfl (Y_ (fun r:Bool=> .bool r) e3 (ple rfl))
theorem Rm_:Fn Tryz.prog gb 41 [] (.bool (Nf_)):=by
  refine fC Tryz.func41 Bk_ Tryz.ntmps41 fun w N H hG=>?_;have e0:=Nf_.eq_1;refine gx Bk_ 7 ?_;refine call Rp_ rfl rfl fun w1=>?_;refine gx Bk_ 4 ?_;exact rt1 rfl rfl (Y_ (fun r:Bool=> .bool r) e0 (ple rfl))
theorem Rt_:Fn Tryz.prog gb 254 [] (.bool (Nj_)):=by
  refine fC Tryz.func254 Bk_ Tryz.ntmps254 fun w N H hG=>?_;have e0:=Nj_.eq_1;refine gx Bk_ 9 ?_;refine cV e0 R2_ (Gv_ (⟨[]⟩:LineR) (⟨3,[97],[],[],[],0,0⟩:Mail) (hh:=by first|omega|decide)) rfl fun r hr1 e3 w2=>?_;have hA3:=Qe_ (l:=(⟨[]⟩:LineR)) (m:=(⟨3,[97],[],[],[],0,0⟩:Mail)) (by first|assumption|exact Qi_) (by decide)
  (try rw[<- hr1] at hA3)
  refine gm Bk_ 12 [0] fun B6=>?_;refine cV e3 R2_ (Gv_ _ (⟨5,[97],[],[],[],0,0⟩:Mail) (hh:=by first|omega|decide)) rfl fun r1 hr7 e9 w8=>?_;have hA9:=Qe_ (l:=r.1) (m:=(⟨5,[97],[],[],[],0,0⟩:Mail)) (by first|assumption|exact Qi_) (by decide)
  (try rw[<- hr7] at hA9)
  refine gm Bk_ 10 [] fun _=>?_;refine cV e9 R7_ (F7_ _) rfl fun r2 hr12 e14 w13=>?_
  (try have hA14:=Mj_ (l:=r1.1) (by assumption);(try rw[<- hr12] at hA14);obtain⟨hA14_0,hA14_1⟩:=hA14)
  refine gm Bk_ 13 [1] fun B17=>?_;refine cV e14 R7_ (F7_ _) rfl fun r3 hr18 e20 w19=>?_
  (try have hA20:=Mj_ (l:=r2.1) (by assumption);(try rw[<- hr18] at hA20);obtain⟨hA20_0,hA20_1⟩:=hA20)
  refine gm Bk_ 13 [2] fun B23=>?_;refine cV e20 R2_ (Ia_ _ _) rfl fun r4 hr24 e26 w25=>?_;have hA26:=Qf_ (l:=r3.1) (id:=3) (by assumption)
  (try rw[<- hr24] at hA26)
  refine gm Bk_ 10 [] fun _=>?_;refine cV e26 R4_ (Hu_ _) rfl fun r5 hr29 e31 w30=>?_;refine gm Bk_ 10 [3] fun B33=>?_;refine call Nh_ rfl rfl fun w34=>?_;refine gx Bk_ 1 ?_;refine ungd rfl rfl ?_;refine gx Bk_ 1 ?_;refine ungd rfl rfl ?_;refine gy Bk_ 40 ?_;exact rt1 rfl rfl (Y_ (fun r:Bool=> .bool r) e31 (ple rfl))
theorem Rs_:Fn Tryz.prog gb 183 [] (.bool (Ni_)):=by
  refine fC Tryz.func183 Bk_ Tryz.ntmps183 fun w N H hG=>?_;have e0:=Ni_.eq_1;refine gx Bk_ 7 ?_;refine call Rt_ rfl rfl fun w1=>?_;refine gx Bk_ 4 ?_;exact rt1 rfl rfl (Y_ (fun r:Bool=> .bool r) e0 (ple rfl))
theorem Rv_:Fn Tryz.prog gb 104 [] (.bool (K1_)):=by
  refine fC Tryz.func104 Bk_ Tryz.ntmps104 fun w N H hG=>?_;have e0:=K1_.eq_1;refine gm Bk_ 17 [0] fun B2=>?_;refine loop (ι:=Nat×Nat×Ef_) [0,1] [] (fun ⟨f,v,x⟩=>[(7, .int .i64 (v:Int))]) (fun ⟨f,v,x⟩=>[(0, .box (B2 0) 46 (Ef_.pc x))]) (fun ⟨f,v,x⟩=>40-v<f/\K1_=Hr_ f v x/\x.kept.length<=32) (fun ⟨f,v,x⟩=>f) ⟨(40-0+1),0,(⟨0,[]⟩:Ef_)⟩ ⟨rfl,trivial⟩ ⟨rfl,trivial⟩ ?_ ?_
  · exact⟨Nat.lt_succ_self _,e0,by decide⟩
  rintro⟨f,v,x⟩ ⟨hp3_1,hp3_2,hp3_3⟩;obtain⟨f1,rfl⟩:∃ q,f=q+1:=⟨f-1,by omega⟩;have e_f1:=hp3_2.trans (Hr_.eq_2 _ _ _);refine gx Bk_ 6 ?_;refine cD e_f1 (fun p5 e6=>?_) (fun p12 e13=>?_)
  · refine gx Bk_ 15 ?_;refine cV e6 R9_ (Fx_ _ (⟨0,(IntKind.wrap .u8 (v:Int)),[]⟩:NoteR)) rfl fun r hr7 e9 w8=>?_;have hA9:=Qm_ (n:=x) (x:=(⟨0,(IntKind.wrap .u8 (v:Int)),[]⟩:NoteR)) (by assumption)
    (try rw[<- hr7] at hA9)
    refine gmy Bk_ 11 [] fun _=>?_;refine next ⟨f1,(v+1),r.1⟩ rfl rfl ⟨rfl,trivial⟩ ⟨rfl,trivial⟩ ?_ ?_
    · (try simp only[]);omega
    exact⟨by (try simp only[]);omega,e9,by assumption⟩
  refine gx Bk_ 8 ?_;refine cV e13 R30_ (Hw_ _ _) rfl fun r1 hr14 e16 w15=>?_;refine gm Bk_ 11 [1] fun B18=>?_;refine cV e16 R30_ (Hw_ _ _) rfl fun r2 hr19 e21 w20=>?_;refine gm Bk_ 10 [2] fun B23=>?_;refine call Nc_ rfl rfl fun w24=>?_;refine gx Bk_ 1 ?_;refine ungd rfl rfl ?_;refine gy Bk_ 13 ?_;refine callg rfl (fun hc=>(Jy_ _)) rfl ⟨(fun hc=>hc),trivial⟩ rfl rfl fun _=>?_;refine gy Bk_ 6 ?_;exact rt1 rfl rfl (Y_ (fun r:Bool=> .bool r) e21 (ple rfl))
theorem Ru_:Fn Tryz.prog gb 44 [] (.bool (Nk_)):=by
  refine fC Tryz.func44 Bk_ Tryz.ntmps44 fun w N H hG=>?_;have e0:=Nk_.eq_1;refine gx Bk_ 7 ?_;refine call Rv_ rfl rfl fun w1=>?_;refine gx Bk_ 4 ?_;exact rt1 rfl rfl (Y_ (fun r:Bool=> .bool r) e0 (ple rfl))
theorem Rx_:Fn Tryz.prog gb 255 [] (.bool (K2_)):=by
  refine fC Tryz.func255 Bk_ Tryz.ntmps255 fun w N H hG=>?_;have e0:=K2_.eq_1;refine gm Bk_ 17 [0] fun B2=>?_;refine loop (ι:=Nat×Nat×RiseR) [0,1] [] (fun ⟨f,v,x⟩=>[(8, .int .i64 (v:Int))]) (fun ⟨f,v,x⟩=>[(0, .box (B2 0) 40 (RiseR.pc x))]) (fun ⟨f,v,x⟩=>20-v<f/\K2_=Hs_ f v x/\RiOk x/\(x.total=0\/0<x.kept.length)) (fun ⟨f,v,x⟩=>f) ⟨(20-0+1),0,(⟨0,[]⟩:RiseR)⟩ ⟨rfl,trivial⟩ ⟨rfl,trivial⟩ ?_ ?_
  · exact⟨Nat.lt_succ_self _,e0,⟨Vr_, .inl rfl⟩⟩
  rintro⟨f,v,x⟩ ⟨hp3_1,hp3_2,hp3_3⟩;obtain⟨hi1,hi2⟩:=hp3_3;obtain⟨f1,rfl⟩:∃ q,f=q+1:=⟨f-1,by omega⟩;have e_f1:=hp3_2.trans (Hs_.eq_2 _ _ _);refine gx Bk_ 6 ?_;refine cD e_f1 (fun p5 e6=>?_) (fun p13 e14=>?_)
  · refine gx Bk_ 7 ?_;refine cV e6 R31_ (Fj_ _ (⟨0,[97],[],[],[],0,0⟩:Mail) (hh:=by first|omega|decide)) rfl fun r hr7 e9 w8=>?_;have hA9:=T7_ (x:=x) (m:=(⟨0,[97],[],[],[],0,0⟩:Mail)) (by assumption)
    (try rw[<- hr7] at hA9)
    have hA10:=rput_ne (x:=x) (m:=(⟨0,[97],[],[],[],0,0⟩:Mail)) (by assumption)
    (try rw[<- hr7] at hA10)
    refine gmy Bk_ 11 [] fun _=>?_;refine next ⟨f1,(v+1),r.1⟩ rfl rfl ⟨rfl,trivial⟩ ⟨rfl,trivial⟩ ?_ ?_
    · (try simp only[]);omega
    exact⟨by (try simp only[]);omega,e9,⟨by assumption,by assumption⟩⟩
  refine gx Bk_ 8 ?_;refine cV e14 R32_ (Hz_ _ _) rfl fun r1 hr15 e17 w16=>?_;refine gm Bk_ 13 [1] fun B19=>?_;refine cV e17 R32_ (Hz_ _ _) rfl fun r2 hr20 e22 w21=>?_;refine gm Bk_ 12 [2] fun B24=>?_;refine call Nh_ rfl rfl fun w25=>?_;refine gx Bk_ 1 ?_;refine ungd rfl rfl ?_;refine gx Bk_ 1 ?_;refine ungd rfl rfl ?_;refine gy Bk_ 13 ?_;exact rt1 rfl rfl (Y_ (fun r:Bool=> .bool r) e22 (ple rfl))
theorem Rw_:Fn Tryz.prog gb 184 [] (.bool (Nl_)):=by
  refine fC Tryz.func184 Bk_ Tryz.ntmps184 fun w N H hG=>?_;have e0:=Nl_.eq_1;refine gx Bk_ 7 ?_;refine call Rx_ rfl rfl fun w1=>?_;refine gx Bk_ 4 ?_;exact rt1 rfl rfl (Y_ (fun r:Bool=> .bool r) e0 (ple rfl))
theorem Rz_:Fn Tryz.prog gb 102 [] (.bool (Nn_)):=by
  refine fC Tryz.func102 Bk_ Tryz.ntmps102 fun w N H hG=>?_;have e0:=Nn_.eq_1;refine gx Bk_ 7 ?_;refine cV e0 R6_ (L7_ _ _) rfl fun r hr1 e3 w2=>?_;have hA3:=knew_ok 7 100 (by decide)
  (try rw[<- hr1] at hA3)
  refine gx Bk_ 1 ?_;refine cV e3 R11_ (Hm_ _ (⟨[113],3,0,[]⟩:QueueR)) rfl fun r1 hr5 e7 w6=>?_;have hA7:=Qd_ (q:=(⟨[113],3,0,[]⟩:QueueR)) (s:=r) (by first|assumption|exact StOk.stk (by assumption))
  (try rw[<- hr5] at hA7)
  refine gm Bk_ 12 [0] fun B10=>?_;refine cV e7 R17_ (H2_ _ _ (⟨0,[97],[],[],[],0,0⟩:Mail) (hh:=by first|omega|decide)) rfl fun r2 hr11 e13 w12=>?_
  (try have hA13:=Tr_ (s:=r1.1) (n:=[113]) (m:=(⟨0,[97],[],[],[],0,0⟩:Mail)) (by first|assumption|exact StOk.stk (by assumption)) (by (try simp only[]);omega);(try rw[<- hr11] at hA13);obtain⟨hA13_0,hA13_1,hA13_2⟩:=hA13)
  refine gm Bk_ 15 [1,2] fun B16=>?_;refine call I3_ rfl rfl fun w18=>?_;refine gx Bk_ 1 ?_;refine ungd rfl rfl ?_;refine call Rs_ rfl rfl fun w19=>?_;refine gx Bk_ 2 ?_;refine callg rfl (fun hc=>Rw_) rfl trivial rfl rfl fun _=>?_;refine gy Bk_ 17 ?_;exact rt1 rfl rfl (Y_ (fun r:Bool=> .bool r) e13 (ple rfl))
theorem Ry_:Fn Tryz.prog gb 42 [] (.bool (Nm_)):=by
  refine fC Tryz.func42 Bk_ Tryz.ntmps42 fun w N H hG=>?_;have e0:=Nm_.eq_1;refine gx Bk_ 7 ?_;refine call Rz_ rfl rfl fun w1=>?_;refine gx Bk_ 4 ?_;exact rt1 rfl rfl (Y_ (fun r:Bool=> .bool r) e0 (ple rfl))
theorem cb22:Z_ Tryz.prog 22:=W_ Tryz.func22 (by kernel_rfl) (by kernel_rfl)
def tbv126:Tb:=[(3,ty3),(9,ty9),(22,ty22),(23,ty23),(26,ty26),(27,ty27),(54,ty54),(58,ty58),(60,ty60),(63,ty63),(65,ty65),(67,ty67),(75,ty75),(77,ty77),(94,ty94)]
theorem G5_:tbB Tryz.prog tbv126=true:=by kernel_rfl
theorem Sb_:Fn Tryz.prog gb 9 [] (.bool (I4_)):=by
  refine fC Tryz.func9 G5_ Tryz.ntmps9 fun w N H hG=>?_;have e0:=I4_.eq_1;refine gx G5_ 7 ?_;refine hinl [] G5_ Tryz.func22 rfl Tryz.ntmps22 cb22 rfl rfl rfl rfl fun Hc1 hHc1=>?_;refine gm G5_ 8 [0] fun B3=>?_;refine ef (bsl 1 PlaceR.pc [(⟨[108,111,119],(⟨0,0⟩:LabelR),500,1⟩:PlaceR)] G5_ rfl rfl rfl rfl rfl (fun _=>rfl) rfl (by decide) (by decide) rfl fun u4=>?_);refine ef (bsl 2 i64c [0] G5_ rfl rfl rfl rfl rfl (fun _=>rfl) rfl (by decide) (by decide) rfl fun u5=>?_);refine give 1 rfl ?_;refine give 2 rfl ?_;refine gm G5_ 5 [] fun _=>?_;refine inlr rfl rfl rfl trivial ?_;refine cV e0 R21_ (L8_ (⟨4,1,[(⟨[108,111,119],(⟨0,0⟩:LabelR),500,1⟩:PlaceR)],[0],[]⟩:PolicyR) _ (hp:=by first|assumption|exact Vm_ (by decide +kernel)) (hk:=by first|omega|decide +kernel)) rfl fun r hr7 e9 w8=>?_;have hA9:=Vc_ (p:=(⟨4,1,[(⟨[108,111,119],(⟨0,0⟩:LabelR),500,1⟩:PlaceR)],[0],[]⟩:PolicyR)) (k:=0) (by first|assumption|exact Vm_ (by decide +kernel)) (by first|omega|(simp;done)|decide +kernel)
  (try rw[<- hr7] at hA9)
  refine gm G5_ 13 [1] fun B12=>?_;refine ef (bsl 2 DeedR.pc [(⟨0,0,(⟨[97],1,[]⟩:ShopR),(⟨[],0,0,[]⟩:QueueR),(⟨[],[],false,[],[],false⟩:BindR),[],0,0,0,0,0,(⟨0,[],[],[],[],0,0⟩:Mail),[]⟩:DeedR),(⟨2,0,(⟨[],0,[]⟩:ShopR),(⟨[113],4,0,[]⟩:QueueR),(⟨[],[],false,[],[],false⟩:BindR),[],0,0,0,0,0,(⟨0,[],[],[],[],0,0⟩:Mail),[]⟩:DeedR),(⟨4,0,(⟨[],0,[]⟩:ShopR),(⟨[],0,0,[]⟩:QueueR),(⟨[97],[113],false,[],[],false⟩:BindR),[],0,0,0,0,0,(⟨0,[],[],[],[],0,0⟩:Mail),[]⟩:DeedR)] G5_ rfl rfl rfl rfl rfl (fun _=>rfl) rfl (by decide) (by decide) rfl fun u13=>?_);refine gx G5_ 5 ?_;refine givec 2 rfl ?_;refine loop (ι:=Nat×Nat×C_) [1,20,21] [0] (fun ⟨f,v,x⟩=>[(22, .int .i64 (v:Int))]) (fun ⟨f,v,x⟩=>[(1, .box (B12 0) 54 (C_.pc x))]) (fun ⟨f,v,x⟩=>([(⟨0,0,(⟨[97],1,[]⟩:ShopR),(⟨[],0,0,[]⟩:QueueR),(⟨[],[],false,[],[],false⟩:BindR),[],0,0,0,0,0,(⟨0,[],[],[],[],0,0⟩:Mail),[]⟩:DeedR),(⟨2,0,(⟨[],0,[]⟩:ShopR),(⟨[113],4,0,[]⟩:QueueR),(⟨[],[],false,[],[],false⟩:BindR),[],0,0,0,0,0,(⟨0,[],[],[],[],0,0⟩:Mail),[]⟩:DeedR),(⟨4,0,(⟨[],0,[]⟩:ShopR),(⟨[],0,0,[]⟩:QueueR),(⟨[97],[113],false,[],[],false⟩:BindR),[],0,0,0,0,0,(⟨0,[],[],[],[],0,0⟩:Mail),[]⟩:DeedR)].length)-v<f/\I4_=Ht_ f v x/\StOk x) (fun ⟨f,v,x⟩=>f) ⟨(([(⟨0,0,(⟨[97],1,[]⟩:ShopR),(⟨[],0,0,[]⟩:QueueR),(⟨[],[],false,[],[],false⟩:BindR),[],0,0,0,0,0,(⟨0,[],[],[],[],0,0⟩:Mail),[]⟩:DeedR),(⟨2,0,(⟨[],0,[]⟩:ShopR),(⟨[113],4,0,[]⟩:QueueR),(⟨[],[],false,[],[],false⟩:BindR),[],0,0,0,0,0,(⟨0,[],[],[],[],0,0⟩:Mail),[]⟩:DeedR),(⟨4,0,(⟨[],0,[]⟩:ShopR),(⟨[],0,0,[]⟩:QueueR),(⟨[97],[113],false,[],[],false⟩:BindR),[],0,0,0,0,0,(⟨0,[],[],[],[],0,0⟩:Mail),[]⟩:DeedR)].length)-0+1),0,r⟩ ⟨rfl,trivial⟩ ⟨rfl,trivial⟩ ?_ ?_
  · exact⟨Nat.lt_succ_self _,e9,by assumption⟩
  rintro⟨f,v,x⟩ ⟨hp14_1,hp14_2,hp14_3⟩;have hlen0:([(⟨0,0,(⟨[97],1,[]⟩:ShopR),(⟨[],0,0,[]⟩:QueueR),(⟨[],[],false,[],[],false⟩:BindR),[],0,0,0,0,0,(⟨0,[],[],[],[],0,0⟩:Mail),[]⟩:DeedR),(⟨2,0,(⟨[],0,[]⟩:ShopR),(⟨[113],4,0,[]⟩:QueueR),(⟨[],[],false,[],[],false⟩:BindR),[],0,0,0,0,0,(⟨0,[],[],[],[],0,0⟩:Mail),[]⟩:DeedR),(⟨4,0,(⟨[],0,[]⟩:ShopR),(⟨[],0,0,[]⟩:QueueR),(⟨[97],[113],false,[],[],false⟩:BindR),[],0,0,0,0,0,(⟨0,[],[],[],[],0,0⟩:Mail),[]⟩:DeedR)]).length<=100:=by decide
  obtain⟨f1,rfl⟩:∃ q,f=q+1:=⟨f-1,by omega⟩;have e_f1:=hp14_2.trans (Ht_.eq_2 _ _ _);refine gx G5_ 6 ?_;refine cD e_f1 (fun p16 e17=>?_) (fun p37 e38=>?_)
  · have hc18:=getG (xs:=[(⟨0,0,(⟨[97],1,[]⟩:ShopR),(⟨[],0,0,[]⟩:QueueR),(⟨[],[],false,[],[],false⟩:BindR),[],0,0,0,0,0,(⟨0,[],[],[],[],0,0⟩:Mail),[]⟩:DeedR),(⟨2,0,(⟨[],0,[]⟩:ShopR),(⟨[113],4,0,[]⟩:QueueR),(⟨[],[],false,[],[],false⟩:BindR),[],0,0,0,0,0,(⟨0,[],[],[],[],0,0⟩:Mail),[]⟩:DeedR),(⟨4,0,(⟨[],0,[]⟩:ShopR),(⟨[],0,0,[]⟩:QueueR),(⟨[97],[113],false,[],[],false⟩:BindR),[],0,0,0,0,0,(⟨0,[],[],[],[],0,0⟩:Mail),[]⟩:DeedR)]) (k:=v) (by omega);have hz_hc18:=ddB_ok (l:=[(⟨0,0,(⟨[97],1,[]⟩:ShopR),(⟨[],0,0,[]⟩:QueueR),(⟨[],[],false,[],[],false⟩:BindR),[],0,0,0,0,0,(⟨0,[],[],[],[],0,0⟩:Mail),[]⟩:DeedR),(⟨2,0,(⟨[],0,[]⟩:ShopR),(⟨[113],4,0,[]⟩:QueueR),(⟨[],[],false,[],[],false⟩:BindR),[],0,0,0,0,0,(⟨0,[],[],[],[],0,0⟩:Mail),[]⟩:DeedR),(⟨4,0,(⟨[],0,[]⟩:ShopR),(⟨[],0,0,[]⟩:QueueR),(⟨[97],[113],false,[],[],false⟩:BindR),[],0,0,0,0,0,(⟨0,[],[],[],[],0,0⟩:Mail),[]⟩:DeedR)]) (by decide +kernel) (gt [(⟨0,0,(⟨[97],1,[]⟩:ShopR),(⟨[],0,0,[]⟩:QueueR),(⟨[],[],false,[],[],false⟩:BindR),[],0,0,0,0,0,(⟨0,[],[],[],[],0,0⟩:Mail),[]⟩:DeedR),(⟨2,0,(⟨[],0,[]⟩:ShopR),(⟨[113],4,0,[]⟩:QueueR),(⟨[],[],false,[],[],false⟩:BindR),[],0,0,0,0,0,(⟨0,[],[],[],[],0,0⟩:Mail),[]⟩:DeedR),(⟨4,0,(⟨[],0,[]⟩:ShopR),(⟨[],0,0,[]⟩:QueueR),(⟨[97],[113],false,[],[],false⟩:BindR),[],0,0,0,0,0,(⟨0,[],[],[],[],0,0⟩:Mail),[]⟩:DeedR)] v) (List.mem_of_getElem? hc18);have hy_hc18:=hz_hc18.1;have hx_hc18:=hz_hc18.2;refine gx G5_ 6 ?_;refine q1 (qidx G5_ v rfl rfl rfl hc18 rfl rfl rfl rfl) rfl fun w19=>?_;refine gm G5_ 9 [2] fun B21=>?_;refine cV e17 R22_ (E6_ _ _ (hd:=by first|assumption|exact dd1 (by decide +kernel)|exact⟨by first|(simp;done)|omega,by first|(simp;done)|omega,by first|(simp;done)|((try dsimp only);omega),by first|(simp;done)|((try dsimp only);omega)⟩)) rfl fun r1 hr22 e24 w23=>?_;have hA24:=Xu_ (s:=x) (d:=(gt [(⟨0,0,(⟨[97],1,[]⟩:ShopR),(⟨[],0,0,[]⟩:QueueR),(⟨[],[],false,[],[],false⟩:BindR),[],0,0,0,0,0,(⟨0,[],[],[],[],0,0⟩:Mail),[]⟩:DeedR),(⟨2,0,(⟨[],0,[]⟩:ShopR),(⟨[113],4,0,[]⟩:QueueR),(⟨[],[],false,[],[],false⟩:BindR),[],0,0,0,0,0,(⟨0,[],[],[],[],0,0⟩:Mail),[]⟩:DeedR),(⟨4,0,(⟨[],0,[]⟩:ShopR),(⟨[],0,0,[]⟩:QueueR),(⟨[97],[113],false,[],[],false⟩:BindR),[],0,0,0,0,0,(⟨0,[],[],[],[],0,0⟩:Mail),[]⟩:DeedR)] v)) (by assumption) (by first|assumption|exact dd1 (by decide +kernel)|exact⟨by first|(simp;done)|omega,by first|(simp;done)|omega,by first|(simp;done)|((try dsimp only);omega),by first|(simp;done)|((try dsimp only);omega)⟩) (by first|assumption|omega|(dsimp only;omega)|decide +kernel)
    (try rw[<- hr22] at hA24)
    refine gm G5_ 18 [3,4] fun B27=>?_;refine cN e24 (fun p31 e32=>?_) (fun p34 e35=>?_)
    · refine gx G5_ 12 ?_;exact rt1 rfl rfl (Y_ (fun r:Bool=> .bool r) e32 (ple rfl))
    refine gmy G5_ 12 [] fun _=>?_;refine next ⟨f1,(v+1),r1.1⟩ rfl rfl ⟨rfl,trivial⟩ ⟨rfl,trivial⟩ ?_ ?_
    · (try simp only[]);omega
    exact⟨by (try simp only[]);omega,e35,by assumption⟩
  refine gx G5_ 10 ?_;refine cV e38 R22_ (E6_ _ (⟨6,0,(⟨[],0,[]⟩:ShopR),(⟨[],0,0,[]⟩:QueueR),(⟨[],[],false,[],[],false⟩:BindR),[],0,0,0,0,0,(⟨0,[97],[],[],[120],0,0⟩:Mail),[]⟩:DeedR) (hd:=by first|assumption|exact dd1 (by decide +kernel)|exact⟨by first|(simp;done)|omega,by first|(simp;done)|omega,by first|(simp;done)|((try dsimp only);omega),by first|(simp;done)|((try dsimp only);omega)⟩)) rfl fun r2 hr39 e41 w40=>?_;have hA41:=Xu_ (s:=x) (d:=(⟨6,0,(⟨[],0,[]⟩:ShopR),(⟨[],0,0,[]⟩:QueueR),(⟨[],[],false,[],[],false⟩:BindR),[],0,0,0,0,0,(⟨0,[97],[],[],[120],0,0⟩:Mail),[]⟩:DeedR)) (by assumption) (by first|assumption|exact dd1 (by decide +kernel)|exact⟨by first|(simp;done)|omega,by first|(simp;done)|omega,by first|(simp;done)|((try dsimp only);omega),by first|(simp;done)|((try dsimp only);omega)⟩) (by first|assumption|omega|(dsimp only;omega)|decide +kernel)
  (try rw[<- hr39] at hA41)
  refine gm G5_ 14 [2] fun B44=>?_;refine cV e41 R22_ (E6_ _ (⟨7,0,(⟨[],0,[]⟩:ShopR),(⟨[],0,0,[]⟩:QueueR),(⟨[],[],false,[],[],false⟩:BindR),[113],0,0,0,0,0,(⟨0,[],[],[],[],0,0⟩:Mail),[]⟩:DeedR) (hd:=by first|assumption|exact dd1 (by decide +kernel)|exact⟨by first|(simp;done)|omega,by first|(simp;done)|omega,by first|(simp;done)|((try dsimp only);omega),by first|(simp;done)|((try dsimp only);omega)⟩)) rfl fun r3 hr45 e47 w46=>?_;have hA47:=Xu_ (s:=r2.1) (d:=(⟨7,0,(⟨[],0,[]⟩:ShopR),(⟨[],0,0,[]⟩:QueueR),(⟨[],[],false,[],[],false⟩:BindR),[113],0,0,0,0,0,(⟨0,[],[],[],[],0,0⟩:Mail),[]⟩:DeedR)) (by assumption) (by first|assumption|exact dd1 (by decide +kernel)|exact⟨by first|(simp;done)|omega,by first|(simp;done)|omega,by first|(simp;done)|((try dsimp only);omega),by first|(simp;done)|((try dsimp only);omega)⟩) (by first|assumption|omega|(dsimp only;omega)|decide +kernel)
  (try rw[<- hr45] at hA47)
  refine gm G5_ 13 [3,4] fun B50=>?_;refine call Rm_ rfl rfl fun w52=>?_;refine gx G5_ 1 ?_;refine callg rfl (fun hc=>Ry_) rfl trivial rfl rfl fun _=>?_;refine gy G5_ 2 ?_;refine callg rfl (fun hc=>Yx_) rfl trivial rfl rfl fun _=>?_;refine gy G5_ 2 ?_;refine callg rfl (fun hc=>Ru_) rfl trivial rfl rfl fun _=>?_;refine gy G5_ 25 ?_;exact rt1 rfl rfl (Y_ (fun r:Bool=> .bool r) e47 (ple rfl))
abbrev ty47:TI:=⟨.arr,16,128,[.int .u64 0, .int .u64 0, .int .u64 0, .int .u64 0, .int .u64 0, .int .u64 0, .int .u64 0, .int .u64 0, .int .u64 0, .int .u64 0, .int .u64 0, .int .u64 0, .int .u64 0, .int .u64 0, .int .u64 0, .int .u64 0]⟩
theorem ag43:Ag Tryz.prog 43 true:=fun w=>by kernel_rfl
theorem sz43:Sz Tryz.prog 43 35:=fun w=>by kernel_rfl
abbrev R35_:PolicyR->PV:=fun r=> .agg (PolicyR.pc r)
theorem sz3:Sz Tryz.prog 3 1:=fun w=>by kernel_rfl
abbrev ty56:TI:=⟨.arr,16,128,[.int .i64 0, .int .i64 0, .int .i64 0, .int .i64 0, .int .i64 0, .int .i64 0, .int .i64 0, .int .i64 0, .int .i64 0, .int .i64 0, .int .i64 0, .int .i64 0, .int .i64 0, .int .i64 0, .int .i64 0, .int .i64 0]⟩
def tbv132:Tb:=[(3,ty3),(22,ty22),(24,ty24),(26,ty26),(27,ty27),(36,ty36),(47,ty47),(54,ty54),(56,ty56),(67,ty67),(87,ty87)]
theorem Ci_:tbB Tryz.prog tbv132=true:=by kernel_rfl
theorem l23_StoreFlows_ok (p:PolicyR) (place:Int) (l:List DeedR):Fn Tryz.prog gb 3 [.agg (PolicyR.pc p), .int .u8 place, .sl DeedR.pc l] (.bool (Fe_ p place l)):=by
  refine fC Tryz.func3 Ci_ Tryz.ntmps3 fun w N H hG=>?_;have p_work_r:-9223372036854775808<=p.work/\p.work<=9223372036854775807:=w.1.1;have p_give_r:-9223372036854775808<=p.give/\p.give<=9223372036854775807:=w.1.2.1;have p_places_l:p.places.length<=140737488355328:=w.1.2.2.1.1;have p_slots_l:p.slots.length<=140737488355328:=w.1.2.2.2.1.1;have p_grants_l:p.grants.length<=140737488355328:=w.1.2.2.2.2.1.1;have place_r:0<=place/\place<=255:=w.2.1;have l_l:l.length<=140737488355328:=w.2.2.1.1;have e0:=Fe_.eq_1 p place l;generalize Fe_ p place l=z at e0 ⊢;refine gm Ci_ 9 [0] fun B2=>?_;refine call Sb_ rfl rfl fun w3=>?_;refine gx Ci_ 3 ?_;refine cE e0 (fun h4 e6=>?_) (fun h4 e8=>?_)
  · have h5:=C7_ h4;refine gx Ci_ 7 ?_;subst e6;exact qr1
  have h7:=Dd_ h4;refine gx Ci_ 6 ?_;refine call (Wc_ _) rfl rfl fun w9=>?_;refine gx Ci_ 3 ?_;refine callg rfl (fun hc=>(Sa_ _)) rfl ⟨(fun hc=>hc),trivial⟩ rfl rfl fun _=>?_;refine gy Ci_ 4 ?_;refine cE e8 (fun h10 e11=>?_) (fun h10 e18=>?_)
  · refine gx Ci_ 7 ?_;subst e11;exact qr1
  have h12:=orl h10;have h13:=Dd_ h12;have hb13:=Yp_ h13
  (try obtain⟨hb13a,hb13b⟩:=hb13)
  have h15:=orr h10;have h16:=Dd_ h15;have hb16:=Y1_ h16
  (try obtain⟨hb16a,hb16b⟩:=hb16)
  refine gx Ci_ 6 ?_;refine cV e18 R0_ (Y0_ _ _) rfl fun r hr19 e21 w20=>?_;have hA21:=at_r p place (by omega)
  (try rw[<- hr19] at hA21)
  refine gx Ci_ 7 ?_;refine cV e21 R21_ (L8_ _ _ (hp:=by first|assumption|exact Vm_ (by decide +kernel)) (hk:=by first|omega|decide +kernel)) rfl fun r1 hr23 e25 w24=>?_;have hA25:=Vc_ (p:=p) (k:=r) (by first|assumption|exact Vm_ (by decide +kernel)) (by first|omega|(simp;done)|decide +kernel)
  (try rw[<- hr23] at hA25)
  refine gm Ci_ 29 [1,2,3] fun B28=>?_;refine loop (ι:=Nat×Int×Int×C_×A16_u64×A16_i64) [3,7,8,9,10,34,35] [0] (fun ⟨k,round,tick,x,x1,x2⟩=>[(36, .int .i64 (k:Int)),(11, .int .u64 round),(12, .int .u64 tick)]) (fun ⟨k,round,tick,x,x1,x2⟩=>[(1, .box (B28 0) 54 (C_.pc x)),(2, .box (B28 1) 47 (A16_u64.pc x1)),(3, .box (B28 2) 56 (A16_i64.pc x2))]) (fun ⟨k,round,tick,x,x1,x2⟩=>k<=l.length/\z=Ay_ p r (l.drop k) round tick x x1 x2/\StOk x/\(∀ i,i<16->0<=A16.get x2 i/\A16.get x2 i<=1000)) (fun ⟨k,round,tick,x,x1,x2⟩=>l.length-k) ⟨0,0,0,r1,(⟨0,0,0,0,0,0,0,0,0,0,0,0,0,0,0,0⟩:A16_u64),(⟨0,0,0,0,0,0,0,0,0,0,0,0,0,0,0,0⟩:A16_i64)⟩ ⟨rfl,rfl,rfl,trivial⟩ ⟨rfl,rfl,rfl,trivial⟩ ?_ ?_
  · exact⟨Nat.zero_le _,e25,⟨by assumption,Uc_⟩⟩
  rintro⟨k,round,tick,x,x1,x2⟩ ⟨hp31_1,hp31_2,hp31_3⟩;obtain⟨hi1,hi2⟩:=hp31_3;refine gx Ci_ 6 ?_;refine cn rfl (fun p33=>?_) fun p127=>?_
  · have e34:=Di_ (f:=fun zz=>Ay_ p r zz round tick x x1 x2) hp31_2 (Gs_ (by omega)) (Ay_.eq_2 _ _ _ _ _ _ _ _ _);refine gx Ci_ 3 ?_;obtain⟨o,e_o,q_o⟩:=Zc_ e34;refine Ho_ (ι:=Int×Int×C_×A16_u64×A16_i64) [3,7,8,9,10,34,35,36] [0] (fun ⟨round1,tick1,x3,x4,x5⟩=>[(11, .int .u64 round1),(12, .int .u64 tick1)]) (fun ⟨round1,tick1,x3,x4,x5⟩=>[(1, .box (B28 0) 54 (C_.pc x3)),(2, .box (B28 1) 47 (A16_u64.pc x4)),(3, .box (B28 2) 56 (A16_i64.pc x5))]) (fun ⟨round1,tick1,x3,x4,x5⟩=>o = .fin (round1,tick1,x3,x4,x5)/\StOk x3/\(∀ i,i<16->0<=A16.get x5 i/\A16.get x5 i<=1000)) ?_ ?_
    · have hc35:=getG (xs:=l) (k:=k) (by omega);have hy_hc35:=dd_mem (by assumption) hc35;have hx_hc35:=Xs_ (by first|exact w.1|exact w.2.1|exact w.2.2.1|exact w.2.2.2.1) hc35;refine gx Ci_ 3 ?_;refine q1 (qidx Ci_ k rfl rfl rfl hc35 rfl rfl rfl rfl) rfl fun w36=>?_;refine gm Ci_ 23 [4] fun B38=>?_;obtain⟨o1,e_o1,q_o1⟩:=Sj_ e_o;refine Ho_ (ι:=Int×A16_i64) [3,7,8,9,10,12,14,34,35,36] [0,1,2,4] (fun ⟨round2,x6⟩=>[(11, .int .u64 round2)]) (fun ⟨round2,x6⟩=>[(3, .box (B28 2) 56 (A16_i64.pc x6))]) (fun ⟨round2,x6⟩=>o1=(round2,x6)/\∀ i,i<16->0<=A16.get x6 i/\A16.get x6 i<=1000) ?_ ?_
      · refine gx Ci_ 3 ?_;refine cV e_o1 R35_ (Ro_ _) rfl fun r2 hr39 e41 w40=>?_;have hA41:=to_sl p
        (try rw[<- hr39] at hA41)
        refine gx Ci_ 1 ?_;refine cV e41 R10_ (Su_ _ (max ((gt l k).tick) tick)) rfl fun r3 hr43 e45 w44=>?_;refine gx Ci_ 10 ?_;refine cN e45 (fun p48 e49=>?_) (fun p53 e54=>?_)
        · refine gx Ci_ 2 ?_;refine q1 (qbz Ci_ rfl Tryz.underlying56 sz3 rfl) rfl fun w50=>?_;refine gm Ci_ 3 [] fun _=>?_;refine nZ ⟨r3,(⟨0,0,0,0,0,0,0,0,0,0,0,0,0,0,0,0⟩:A16_i64)⟩ ?_ ⟨rfl,trivial⟩ ⟨rfl,trivial⟩;exact⟨e49,by first|assumption|exact Uc_⟩
        refine gx Ci_ 1 ?_;refine nZ ⟨round,x2⟩ ?_ ⟨rfl,trivial⟩ ⟨rfl,trivial⟩;exact⟨e54,by first|assumption|exact Uc_⟩
      rintro⟨round2,x6⟩ ⟨hp55,hp55_3⟩;have e56:=Zf_ q_o1 hp55;refine gx Ci_ 5 ?_;refine cV e56 R22_ (E6_ _ (⟨(gt l k).kind,(max ((gt l k).tick) tick),(gt l k).shop,(gt l k).queue,(gt l k).bind,(gt l k).name,(gt l k).id,(gt l k).how,(gt l k).frm,(gt l k).code,(gt l k).number,(gt l k).mail,(gt l k).text⟩:DeedR) (hd:=by first|assumption|exact dd1 (by decide +kernel)|exact⟨by first|(simp;done)|omega,by first|(simp;done)|omega,by first|(simp;done)|((try dsimp only);omega),by first|(simp;done)|((try dsimp only);omega)⟩)) rfl fun r4 hr57 e59 w58=>?_;have hA59:=Xu_ (s:=x) (d:=(⟨(gt l k).kind,(max ((gt l k).tick) tick),(gt l k).shop,(gt l k).queue,(gt l k).bind,(gt l k).name,(gt l k).id,(gt l k).how,(gt l k).frm,(gt l k).code,(gt l k).number,(gt l k).mail,(gt l k).text⟩:DeedR)) (by assumption) (by first|assumption|exact dd1 (by decide +kernel)|exact⟨by first|(simp;done)|omega,by first|(simp;done)|omega,by first|(simp;done)|((try dsimp only);omega),by first|(simp;done)|((try dsimp only);omega)⟩) (by first|assumption|omega|(dsimp only;omega)|decide +kernel)
      (try rw[<- hr57] at hA59)
      refine gm Ci_ 13 [] fun _=>?_;refine loop (ι:=Nat×Nat×A16_u64×A16_i64) [3,7,8,9,10,11,12,34,35,36] [0,1,4] (fun ⟨f,v,x7,x8⟩=>[(63, .int .i64 (v:Int))]) (fun ⟨f,v,x7,x8⟩=>[(2, .box (B28 1) 47 (A16_u64.pc x7)),(3, .box (B28 2) 56 (A16_i64.pc x8))]) (fun ⟨f,v,x7,x8⟩=>16-v<f/\o=Cf_ p r tick round2 r4 (gt l k) f v x7 x8/\v<=16/\(∀ i,i<16->0<=A16.get x8 i/\A16.get x8 i<=1000)) (fun ⟨f,v,x7,x8⟩=>f) ⟨(16-0+1),0,x1,x6⟩ ⟨rfl,trivial⟩ ⟨rfl,rfl,trivial⟩ ?_ ?_
      · exact⟨Nat.lt_succ_self _,e59,⟨by omega,by assumption⟩⟩
      rintro⟨f,v,x7,x8⟩ ⟨hp62_1,hp62_2,hp62_3⟩;obtain⟨hj1,hj2⟩:=hp62_3;have hgb:=H3_ p r (v:Int);have hgi:=Jq_ (p:=p) (by assumption) r (v:Int);have hj3:=hj2 v;obtain⟨f1,rfl⟩:∃ q,f=q+1:=⟨f-1,by omega⟩;have e_f1:=hp62_2.trans (Cf_.eq_2 _ _ _ _ _ _ _ _ _ _);refine gx Ci_ 6 ?_;refine cD e_f1 (fun p64 e65=>?_) (fun p123 e124=>?_)
      · refine gx Ci_ 11 ?_;refine Ho_ (ι:=Unit) [3,7,8,9,10,11,12,16,34,35,36,63] [0,1,2,3,4] (fun _=>[(17, .int .u64 (IntKind.wrap .u64 ((B7_ (Al_ ((S_ r4.1).stock) (v:Int)))-(A16.get x7 v))))]) (fun _=>[]) (fun _=>PV.wf (.agg (A8_.pc (S_ r4.1)))/\PV.wf (.agg (RiseR.pc (Al_ ((S_ r4.1).stock) (v:Int))))/\PV.wf (.int .u64 (B7_ (Al_ ((S_ r4.1).stock) (v:Int))))) ?_ ?_
        · refine aN [5,6,7,8,9,10,11,12] 11 mixd ?_;refine gX Ci_ [0,3,6] 8 ?_;refine vq 7 (qaia v rfl rfl Tryz.underlying47 sz36 rfl (by omega)) rfl (by kernel_rfl) rfl fun w66=>?_;refine veL 1 [8] (by kernel_rfl) ⟨⟨_,rfl,?_⟩,⟨_,rfl,?_⟩,trivial⟩
          · refine ej rfl (eC (Gy_ r4.1) rfl fun w67=>?_);refine vq 2 (qfA rfl Tryz.underlying52 rfl ag43 sz43 rfl) rfl (by kernel_rfl) rfl fun w68=>?_;refine veL 4 [8] (by kernel_rfl) ⟨⟨_,rfl,?_⟩,⟨_,rfl,?_⟩,trivial⟩
            · refine ej rfl (eC (Fm_ ((S_ r4.1).stock) _) rfl fun w69=>?_);refine vC 5 rfl (Fz_ (Al_ ((S_ r4.1).stock) (v:Int))) rfl fun w70=>?_;refine vE 8 rfl (Kg_ (len:=16) (fun q=> .int .u64 (A16.get x7 q)) v 0 1 0 Ci_ rfl rfl rfl rfl rfl rfl (by omega) (bw16 rfl rfl rfl rfl rfl rfl rfl rfl rfl rfl rfl rfl rfl rfl rfl rfl) rfl fun w71=>?_);have :=F1_ ((B7_ (Al_ ((S_ r4.1).stock) (v:Int)))-(A16.get x7 v));refine gX Ci_ [9,10] 0 ?_;refine vD ?_;refine nZ () ?_ ⟨rfl,trivial⟩ trivial;exact⟨w67,w69,w70⟩
            refine ej rfl (Kg_ (len:=16) (fun q=> .int .u64 (A16.get x7 q)) v 0 1 0 Ci_ rfl rfl rfl rfl rfl rfl (by omega) (bw16 rfl rfl rfl rfl rfl rfl rfl rfl rfl rfl rfl rfl rfl rfl rfl rfl) rfl fun w72=>?_);refine vE 4 rfl (eC (Fm_ ((S_ r4.1).stock) _) rfl fun w73=>?_);refine vC 5 rfl (Fz_ (Al_ ((S_ r4.1).stock) (v:Int))) rfl fun w74=>?_;have :=F1_ ((B7_ (Al_ ((S_ r4.1).stock) (v:Int)))-(A16.get x7 v));refine gX Ci_ [9,10] 0 ?_;refine vD ?_;refine nZ () ?_ ⟨rfl,trivial⟩ trivial;exact⟨w67,w73,w74⟩
          refine ej rfl (Kg_ (len:=16) (fun q=> .int .u64 (A16.get x7 q)) v 0 1 0 Ci_ rfl rfl rfl rfl rfl rfl (by omega) (bw16 rfl rfl rfl rfl rfl rfl rfl rfl rfl rfl rfl rfl rfl rfl rfl rfl) rfl fun w75=>?_);refine vE 1 rfl (eC (Gy_ r4.1) rfl fun w76=>?_);refine vq 2 (qfA rfl Tryz.underlying52 rfl ag43 sz43 rfl) rfl (by kernel_rfl) rfl fun w77=>?_;refine vE 4 rfl (eC (Fm_ ((S_ r4.1).stock) _) rfl fun w78=>?_);refine vC 5 rfl (Fz_ (Al_ ((S_ r4.1).stock) (v:Int))) rfl fun w79=>?_;have :=F1_ ((B7_ (Al_ ((S_ r4.1).stock) (v:Int)))-(A16.get x7 v));refine gX Ci_ [9,10] 0 ?_;refine vD ?_;refine nZ () ?_ ⟨rfl,trivial⟩ trivial;exact⟨w76,w78,w79⟩
        generalize hr80:S_ r4.1=r5;generalize hr81:Al_ (r5.stock) (v:Int)=r6;generalize hr82:B7_ r6=r7;rintro _ ⟨w83,w84,w85⟩;have e86:=e65.trans (Fk_ hr80.symm);have e87:=e86.trans (Fk_ hr81.symm);have e88:=e87.trans (Fk_ hr82.symm);refine gx Ci_ 4 ?_;refine q1 (qaia v rfl rfl Tryz.underlying47 sz36 rfl (by omega)) rfl fun w89=>?_;refine ef (Kg_ (len:=16) (fun q=> .int .u64 (A16.get x7 q)) v 0 1 0 Ci_ rfl rfl rfl rfl rfl rfl (by omega) (bw16 rfl rfl rfl rfl rfl rfl rfl rfl rfl rfl rfl rfl rfl rfl rfl rfl) rfl fun w90=>?_);have :=F1_ ((A16.get x7 v)+(IntKind.wrap .u64 (r7-(A16.get x7 v))));refine gx Ci_ 2 ?_;refine q1 (qaia v rfl rfl Tryz.underlying47 sz36 rfl (by omega)) rfl fun w91=>?_;refine ef (Qn_ (len:=16) (fun q=>A16_u64.pc (A16.set x7 (IntKind.wrap .u64 ((A16.get x7 v)+(IntKind.wrap .u64 (r7-(A16.get x7 v))))) q)) v 0 1 0 Ci_ rfl rfl rfl rfl rfl rfl rfl (by omega) (bw16 rfl rfl rfl rfl rfl rfl rfl rfl rfl rfl rfl rfl rfl rfl rfl rfl) rfl (bw16 rfl rfl rfl rfl rfl rfl rfl rfl rfl rfl rfl rfl rfl rfl rfl rfl) rfl ?_);refine gy Ci_ 17 ?_;refine callg rfl (fun hc=>(D3_ _ _ _)) rfl ⟨(fun hc=>hc),(fun hc=>hc),(fun hc=>hc),trivial⟩ rfl rfl fun _=>?_;refine gy Ci_ 4 ?_;refine cE e88 (fun h92 e93=>?_) (fun h92 e97=>?_)
        · refine gy Ci_ 8 ?_;refine nY ⟨f1,(v+1),(A16.set x7 (IntKind.wrap .u64 ((A16.get x7 v)+(IntKind.wrap .u64 (r7-(A16.get x7 v))))) v),x8⟩ ⟨rfl,trivial⟩ ⟨rfl,rfl,trivial⟩ ?_ ?_
          · (try simp only[]);omega
          exact⟨by (try simp only[]);omega,e93,⟨by omega,by first|assumption|exact sp_set2 (by assumption) (by omega) (by omega) (by assumption) (by omega)⟩⟩
        have h94:=orl h92;have p95:=df h94;have h96:=orr h92;refine gx Ci_ 14 ?_;refine callg rfl (fun hc=>(Cv_ _ _ _)) rfl ⟨(fun hc=>hc),(fun hc=>hc),(fun hc=>hc),trivial⟩ rfl rfl fun _=>?_;refine gy Ci_ 8 ?_;refine cE e97 (fun h98 e99=>?_) (fun h98 e108=>?_)
        · refine gx Ci_ 17 ?_;have e100:=Zb_ q_o e99;subst e100;exact qr1
        have h101:=orl h98;have h102:=orl h101;have p103:=df h102;have h104:=orr h101;have p105:=df h104;have h106:=orr h98;have p107:=df h106;have hw_h106:=w100 h106;refine gx Ci_ 5 ?_;refine q1 (qaia v rfl rfl Tryz.underlying56 sz3 rfl (by omega)) rfl fun w109=>?_;refine ef (Kg_ (len:=16) (fun q=> .int .i64 (A16.get x8 q)) v 0 1 0 Ci_ rfl rfl rfl rfl rfl rfl (by omega) (bw16 rfl rfl rfl rfl rfl rfl rfl rfl rfl rfl rfl rfl rfl rfl rfl rfl) rfl fun w110=>?_);refine gy Ci_ 3 ?_;refine q1 (qaia v rfl rfl Tryz.underlying56 sz3 rfl (by omega)) rfl fun w111=>?_;refine ef (Qn_ (len:=16) (fun q=>A16_i64.pc (A16.set x8 ((A16.get x8 v)+(IntKind.wrap .i64 (IntKind.wrap .u64 (r7-(A16.get x7 v))))) q)) v 0 1 0 Ci_ rfl rfl rfl rfl rfl rfl rfl (by omega) (bw16 rfl rfl rfl rfl rfl rfl rfl rfl rfl rfl rfl rfl rfl rfl rfl rfl) rfl (bw16 rfl rfl rfl rfl rfl rfl rfl rfl rfl rfl rfl rfl rfl rfl rfl rfl) rfl ?_);refine gx Ci_ 3 ?_;refine aN [5,6,7,8,9,10] 13 mixd ?_;refine gX Ci_ [0] 12 ?_;refine vq 1 (qaia v rfl rfl Tryz.underlying56 sz3 rfl (by omega)) rfl (by kernel_rfl) rfl fun w112=>?_;refine gX Ci_ [3,4,5,6,7] 6 ?_;refine vC 8 rfl (Cv_ p _ _) rfl fun w113=>?_;have hc114:=getG (xs:=p.grants) (k:=((B_ p r (v:Int))).toNat) (by omega);refine vq 9 (qidx Ci_ ((B_ p r (v:Int))).toNat rfl rfl (by omega) hc114 rfl rfl rfl rfl) rfl (by kernel_rfl) rfl fun w115=>?_;refine gX Ci_ [10,11] 2 ?_;refine vE 2 rfl (Kg_ (len:=16) (fun q=> .int .i64 (A16.get (A16.set x8 ((A16.get x8 v)+(IntKind.wrap .i64 (IntKind.wrap .u64 (r7-(A16.get x7 v))))) v) q)) v 0 1 0 Ci_ rfl rfl rfl rfl rfl rfl (by omega) (bw16 rfl rfl rfl rfl rfl rfl rfl rfl rfl rfl rfl rfl rfl rfl rfl rfl) rfl fun w116=>?_);refine gX Ci_ [12] 0 ?_;refine vD ?_;refine gx Ci_ 1 ?_;refine cD e108 (fun p118 e119=>?_) (fun p121 e122=>?_)
        · refine gx Ci_ 16 ?_;have e120:=Zb_ q_o e119;subst e120;exact qr1
        refine gy Ci_ 7 ?_;refine nY ⟨f1,(v+1),(A16.set x7 (IntKind.wrap .u64 ((A16.get x7 v)+(IntKind.wrap .u64 (r7-(A16.get x7 v))))) v),(A16.set x8 ((A16.get x8 v)+(IntKind.wrap .i64 (IntKind.wrap .u64 (r7-(A16.get x7 v))))) v)⟩ ⟨rfl,trivial⟩ ⟨rfl,rfl,trivial⟩ ?_ ?_
        · (try simp only[]);omega
        exact⟨by (try simp only[]);omega,e122,⟨by omega,by first|assumption|exact sp_set2 (by assumption) (by omega) (by omega) (by assumption) (by omega)⟩⟩
      refine gx Ci_ 5 ?_;refine nZ ⟨round2,(max ((gt l k).tick) tick),r4.1,x7,x8⟩ ?_ ⟨rfl,rfl,trivial⟩ ⟨rfl,rfl,rfl,trivial⟩;exact⟨e124,⟨by assumption,by assumption⟩⟩
    rintro⟨round1,tick1,x3,x4,x5⟩ ⟨hp125,hp125_3⟩;have e126:=lp5_fin q_o hp125;refine gy Ci_ 5 ?_;refine nY ⟨(k+1),round1,tick1,x3,x4,x5⟩ ⟨rfl,rfl,rfl,trivial⟩ ⟨rfl,rfl,rfl,trivial⟩ ?_ ?_
    · (try simp only[]);omega
    exact⟨by (try simp only[]);omega,e126,(by first|assumption|exact⟨by assumption,by assumption⟩)⟩
  have e128:=Di_ (f:=fun zz=>Ay_ p r zz round tick x x1 x2) hp31_2 (Gt_ (by omega)) (Ay_.eq_1 _ _ _ _ _ _ _);refine gx Ci_ 11 ?_;subst e128;exact qr1
end Go.SW.V
namespace Go.SW
def errD:DataW Unit->Bs
  | .iface _ (.ptr (.agg [.lit (.string b)]))=>b
  |_=>[]
def layE (pt low:Nat):Nat->List (Nat×DataW Unit)->Array Obj->Array Obj
  |_,[],h=>h
  | k,x::l,h=>layE pt low (k+1) l (h.modify x.1 fun
    | .cells _ t frozen=> .cells #[.iface pt (.pointer (some ⟨low+k,0,none⟩))] t frozen
    |o=>o)
noncomputable def laidWE (P:Program) (os:Os) (pt st:Nat) (l e:List (Nat×DataW Unit)):World:=
  let low:=(World.holding P os ⟨#[],#[],[]⟩).heap.size
  let w0:=World.holding P os ⟨(e.map fun x=>Obj.cells #[.string ⟨(errD x.2).toArray⟩] st).toArray,#[],[]⟩
  {w0 with heap:=layE pt low 0 e (List.foldl (fun h x=>h.modify x.1 (layD x.2)) w0.heap l)}
end Go.SW
namespace Go.SW.V
open Go.SW
def Tt (s:C_) (v:Nat):Int:=(A16.get s.x.stock.rises v).total
def Cn (s:C_) (g:Nat) (r:Int):Int:=if (A8.get s.x.spent g).round=r then (A8.get s.x.spent g).count else 0
def UpOk (s:C_):Prop:=∀ b∈s.x.book.binds,b.up=true->G_ s.policy s.place (J_ s.policy b.to')=true
def VOk (R:Int) (s0 s:C_) (v:Nat):Prop:=0<=Tt s0 v/\Tt s0 v<=Tt s v/\Tt s v<=18446744073709551615/\(G_ s0.policy s0.place v=true\/Tt s v=Tt s0 v\/(0<=B_ s0.policy s0.place v/\Tt s v-Tt s0 v<=Cn s (B_ s0.policy s0.place v).toNat R-Cn s0 (B_ s0.policy s0.place v).toNat R))
def GOk (R:Int) (s0 s:C_) (g:Nat):Prop:=Cn s0 g R<=Cn s g R/\(Cn s g R=Cn s0 g R\/Cn s g R<=(gt s0.policy.grants g).budget)
structure Dw (R:Int) (s0 s:C_):Prop where
  po:s.policy=s0.policy
  pl:s.place=s0.place
  up:UpOk s
  v:∀ v,v<16->VOk R s0 s v
  g:∀ g,g<8->GOk R s0 s g
variable {R:Int} {s0 s:C_}
theorem Dw.same {s':C_} (h:Dw R s0 s) (h1:s'.policy=s.policy) (h2:s'.place=s.place) (h3:∀ b∈s'.x.book.binds,b∈s.x.book.binds\/(b.up=true->G_ s.policy s.place (J_ s.policy b.to')=true)) (h4:s'.x.stock.rises=s.x.stock.rises) (h5:s'.x.spent=s.x.spent):Dw R s0 s':=by
  have hT:∀ v,Tt s' v=Tt s v:=fun v=>by unfold Tt;rw[h4]
  have hC:∀ g,Cn s' g R=Cn s g R:=fun g=>by unfold Cn;rw[h5]
  refine⟨h1.trans h.po,h2.trans h.pl,fun b hb hu=>?_,fun v hv=>?_,fun g hg=>?_⟩
  · rw[h1,h2]
    rcases h3 b hb with q|q
    · exact h.up b q hu
    · exact q hu
  · have :=h.v v hv
    unfold VOk at this ⊢
    rw[hT,hC];exact this
  · have :=h.g g hg
    unfold GOk at this ⊢
    rw[hC];exact this
theorem Dw.stock (h:Dw R s0 s) {k:F_} (hk:k.rises=s.x.stock.rises):Dw R s0 ⟨⟨s.x.book,k,s.x.notes,s.x.seen,s.x.spent⟩,s.policy,s.place⟩:=h.same rfl rfl (fun b hb=> .inl hb) hk rfl
theorem Dw.note (h:Dw R s0 s) (t k:Int) (x:Bs):Dw R s0 (A0_ s t k x):=h.same rfl rfl (fun b hb=> .inl hb) rfl rfl
theorem Sr_ (s:F_) (n:Bs) (m:Mail):(Ao_ s n m).1.rises=s.rises:=by
  unfold Ao_ lt
  let Q:F_×Int×Mail×Int->Prop:=fun r=>r.1.rises=s.rises
  refine bt (P:=Q) (fun _=>rfl) fun _=>?_
  refine bt (P:=Q) (fun _=>rfl) fun _=>?_
  refine bt (P:=Q) (fun _=>rfl) fun _=>?_
  refine lp2E (P:=Q) (fun _=>True) ?_ fun a b _=>?_
  · refine bt (P:=LoP _ _) (fun _=>?_) fun _=>trivial
    exact bt (P:=LoP _ _) (fun _=>rfl) fun _=>trivial
  · refine bt (P:=Q) (fun _=>rfl) fun _=>?_
    exact bt (P:=Q) (fun _=>rfl) fun _=>rfl
theorem Wk_ (s:F_) (q:QueueR):(By_ s q).1.rises=s.rises:=by
  unfold By_ lt
  let Q:F_×Int->Prop:=fun r=>r.1.rises=s.rises
  exact bt (P:=Q) (fun _=>rfl) fun _=>bt (P:=Q) (fun _=>rfl) fun _=>bt (P:=Q) (fun _=>rfl) fun _=>bt (P:=Q) (fun _=>rfl) fun _=>rfl
theorem Ov_ (s:F_) (n:Bs):(Cd_ s n).1.rises=s.rises:=by
  unfold Cd_ lt
  let Q:F_×Int->Prop:=fun r=>r.1.rises=s.rises
  exact bt (P:=Q) (fun _=>rfl) fun _=>rfl
theorem Wd_ (s:F_) (n:Bs):(Bh_ s n).1.rises=s.rises:=by
  unfold Bh_ lt
  let Q:F_×ItemR×Bool->Prop:=fun r=>r.1.rises=s.rises
  exact bt (P:=Q) (fun _=>rfl) fun _=>rfl
theorem V4_ (s:F_) (n:Bs) (i:Int):(Cc_ s n i).1.rises=s.rises:=by
  unfold Cc_ lt
  let Q:F_×Int->Prop:=fun r=>r.1.rises=s.rises
  exact bt (P:=Q) (fun _=>rfl) fun _=>rfl
theorem N6_ (s:F_) (n:Bs) (i:Int):(X_ s n i).1.rises=s.rises:=by
  unfold X_ lt
  let Q:F_×ItemR×Int->Prop:=fun r=>r.1.rises=s.rises
  exact bt (P:=Q) (fun _=>rfl) fun _=>rfl
theorem Oe_ (s:F_):∀ (t:List RowR) (k:Nat) (x:F_),x.rises=s.rises->(Aw_ t k x).rises=s.rises
  |[],k,x,h=>h
  |_::t,k,x,h=>by
    unfold Aw_ lt
    exact Oe_ s t (k+1) _ h
theorem W0_ (s:F_):(D5_ s).rises=s.rises:=Oe_ s _ _ _ rfl
theorem rput_t {x:RiseR} {m:Mail} (h0:0<=x.total/\x.total<=18446744073709551615) (e:(Ae_ x m).2=0):(Ae_ x m).1.total=x.total+1/\x.total+1<=18446744073709551615:=by
  revert e
  unfold Ae_ lt
  let Q:RiseR×Int->Prop:=fun r=>r.2=0->r.1.total=x.total+1/\x.total+1<=18446744073709551615
  refine bt (P:=Q) (fun e h=>?_) fun _=>?_
  · simp only[Bool.not_eq_true',decide_eq_false_iff_not] at e
    exact (e h).elim
  · refine bt (P:=Q) (fun _ h=>by cases h) fun e h=>?_
    simp only[decide_eq_false_iff_not] at e
    have hw:IntKind.wrap .u64 (x.total+1)=x.total+1:=by rw[IntKind.wrap_u64];omega
    exact⟨hw,by omega⟩
theorem Dw.raise (h:Dw R s0 s) {to':Int} {m:Mail} (ha:∀ v:Nat,(v:Int)=to'->G_ s0.policy s0.place v=true\/(0<=B_ s0.policy s0.place v/\Tt s v+1-Tt s0 v<=Cn s (B_ s0.policy s0.place v).toNat R-Cn s0 (B_ s0.policy s0.place v).toNat R)):Dw R s0 ⟨⟨s.x.book,(Az_ s.x.stock to' m).1,s.x.notes,s.x.seen,s.x.spent⟩,s.policy,s.place⟩:=by
  unfold Az_ lt
  let Q:F_×Int->Prop:=fun r=>Dw R s0 ⟨⟨s.x.book,r.1,s.x.notes,s.x.seen,s.x.spent⟩,s.policy,s.place⟩
  refine bt (P:=Q) (fun _=>h) fun e1=>?_
  simp only[Bool.or_eq_false_iff,decide_eq_false_iff_not] at e1
  refine bt (P:=Q) (fun _=>h) fun e2=>?_
  simp only[Bool.not_eq_false',decide_eq_true_eq] at e2
  refine bt (P:=Q) (fun _=>h) fun _=>?_
  obtain⟨n,rfl⟩:∃ n:Nat,to'=n:=⟨to'.toNat,by omega⟩
  have hn:n<16:=by omega
  have hv:=h.v n hn
  rw[Int.toNat_natCast] at *
  have ht:=rput_t (x:=A16.get s.x.stock.rises n) (m:=m) ⟨Int.le_trans hv.1 hv.2.1,hv.2.2.1⟩ e2
  have hTn:∀ v,v<16->Tt ⟨⟨s.x.book,⟨s.x.stock.next,s.x.stock.bytes,s.x.stock.rows,A16.set s.x.stock.rises (Ae_ (A16.get s.x.stock.rises n) m).1 n⟩,s.x.notes,s.x.seen,s.x.spent⟩,s.policy,s.place⟩ v = if v=n then Tt s v+1 else Tt s v:=fun v hv'=>by
    show (A16.get (A16.set s.x.stock.rises (Ae_ (A16.get s.x.stock.rises n) m).1 n) v).total=_
    rw[A16.get_set _ _ _ _ hn hv']
    by_cases q:v=n
    · subst q;rw[if_pos rfl,if_pos rfl];exact ht.1
    · rw[if_neg q,if_neg q];rfl
  refine⟨h.po,h.pl,h.up,fun v hv'=>?_,h.g⟩
  have hvv:=h.v v hv'
  unfold VOk at hvv ⊢
  rw[hTn v hv']
  by_cases q:v=n
  · subst q
    rw[if_pos rfl]
    have ht2:Tt s v+1<=18446744073709551615:=ht.2
    refine⟨hvv.1,by omega,ht2,?_⟩
    rcases ha v rfl with q|q
    · exact .inl q
    · exact .inr (.inr q)
  · rw[if_neg q];exact hvv
theorem Dw.spend (h:Dw R s0 s) (hp:PoOk s0.policy) {to' t:Int} (hR:P_ s0.policy t=R) (e:(Ap_ s to' t).2=0):Dw R s0 (Ap_ s to' t).1/\(Ap_ s to' t).1.x.stock=s.x.stock/\∀ v:Nat,(v:Int)=to'->G_ s0.policy s0.place v=true\/(0<=B_ s0.policy s0.place v/\Tt s v+1-Tt s0 v<=Cn (Ap_ s to' t).1 (B_ s0.policy s0.place v).toNat R-Cn s0 (B_ s0.policy s0.place v).toNat R):=by
  revert e
  have hpo:=h.po
  have hpl:=h.pl
  unfold Ap_ lt
  let Q:C_×Int->Prop:=fun r=>r.2=0->Dw R s0 r.1/\r.1.x.stock=s.x.stock/\∀ v:Nat,(v:Int)=to'->G_ s0.policy s0.place v=true\/(0<=B_ s0.policy s0.place v/\Tt s v+1-Tt s0 v<=Cn r.1 (B_ s0.policy s0.place v).toNat R-Cn s0 (B_ s0.policy s0.place v).toNat R)
  refine bt (P:=Q) (fun _ h=>by cases h) fun e1=>?_
  simp only[decide_eq_false_iff_not] at e1
  rw[hpo,hpl] at e1 ⊢
  have hgi:=Jq_ hp s0.place to' (by omega)
  have hgb:=H3_ s0.policy s0.place to'
  have hgl:=hp.2.2.2.2.1
  generalize hg:(B_ s0.policy s0.place to').toNat=g at *
  have hg8:g<8:=by omega
  let I:Cl_->Prop:=fun x=>x.round=R/\x.count=Cn s g R
  refine lt1E (P:=Q) I ?_ fun x hx=>?_
  · rw[hR]
    refine bt (P:=I) (fun q=>?_) fun q=>?_
    · simp only[Bool.not_eq_true',decide_eq_false_iff_not] at q
      exact⟨rfl,by unfold Cn;rw[if_neg q]⟩
    · simp only[Bool.not_eq_false',decide_eq_true_eq] at q
      exact⟨q,by unfold Cn;rw[if_pos q]⟩
  · refine bt (P:=Q) (fun _ h=>by cases h) fun e2 _=>?_
    simp only[decide_eq_false_iff_not] at e2
    have hC:∀ k,k<8->Cn ⟨⟨s.x.book,s.x.stock,(B6_ s.x.notes ⟨t,2,(gt s0.policy.places to'.toNat).name⟩).1,s.x.seen,A8.set s.x.spent ⟨x.round,x.count+1⟩ g⟩,s0.policy,s0.place⟩ k R = if k=g then Cn s k R+1 else Cn s k R:=fun k hk=>by
      unfold Cn
      dsimp only
      rw[A8.get_set _ _ _ _ hg8 hk]
      by_cases q:k=g
      · subst q
        rw[if_pos rfl,if_pos hx.1,if_pos rfl]
        have :=hx.2
        unfold Cn at this
        dsimp only;omega
      · rw[if_neg q,if_neg q]
    have hgs:=h.g g hg8
    have key:∀ y:C_,y.policy=s0.policy->y.place=s0.place->y.x.book=s.x.book->y.x.stock=s.x.stock->(∀ k,k<8->Cn y k R = if k=g then Cn s k R+1 else Cn s k R)->Dw R s0 y/\y.x.stock=s.x.stock/\∀ v:Nat,(v:Int)=to'->G_ s0.policy s0.place v=true\/(0<=B_ s0.policy s0.place v/\Tt s v+1-Tt s0 v<=Cn y (B_ s0.policy s0.place v).toNat R-Cn s0 (B_ s0.policy s0.place v).toNat R):=by
      intro y y1 y2 y3 y4 hD
      have hT:∀ v,Tt y v=Tt s v:=fun v=>by unfold Tt;rw[y4]
      refine⟨⟨y1,y2,?_,fun v hv=>?_,fun k hk=>?_⟩,y4,fun v hv=>?_⟩
      · have :=h.up
        unfold UpOk at this ⊢
        rw[hpo,hpl] at this
        rw[y1,y2,y3]
        exact this
      · have hvv:=h.v v hv
        unfold VOk at hvv ⊢
        rw[hT]
        refine⟨hvv.1,hvv.2.1,hvv.2.2.1,?_⟩
        rcases hvv.2.2.2 with q|q|q
        · exact .inl q
        · exact .inr (.inl q)
        · refine .inr (.inr ⟨q.1,?_⟩)
          have hb:=H3_ s0.policy s0.place v
          rw[hD (B_ s0.policy s0.place v).toNat (by omega)]
          have :=q.2
          split<;>omega
      · unfold GOk
        rw[hD k hk]
        have hk':=h.g k hk
        by_cases q:k=g
        · subst q
          rw[if_pos rfl]
          refine⟨by have :=hk'.1;omega, .inr ?_⟩
          have :=hx.2;omega
        · rw[if_neg q];exact hk'
      · subst hv
        rw[hg,hD g hg8,if_pos rfl]
        have hvv:=h.v v (by have :=hp.2.1;omega)
        rcases hvv.2.2.2 with q|q|q
        · exact .inl q
        · refine .inr ⟨by omega,?_⟩
          have :=hgs.1;omega
        · refine .inr ⟨by omega,?_⟩
          have :=q.2;rw[hg] at this;omega
    exact key _ rfl rfl rfl rfl hC
theorem rput_mem {l:List Bs} {x q:Bs} (h:q∈Ed_ l x):q∈l\/q=x:=by
  unfold Ed_ at h
  cases e:decide (x∈l) with
  |true=>rw[e] at h;exact .inl h
  |false=>
    rw[e] at h
    rcases List.mem_append.1 h with h|h
    · exact .inl h
    · exact .inr (List.mem_singleton.1 h)
theorem K3_ {s:C_} {shop key:Bs} {hd:List Pair}:∀ (t:List BindR) (qs ps:List Bs),(∀ b∈t,b.up=true->G_ s.policy s.place (J_ s.policy b.to')=true)->(∀ q∈ps,G_ s.policy s.place (J_ s.policy q)=true)->∀ q∈(R_ s.x.book shop key hd t qs ps).2.1,G_ s.policy s.place (J_ s.policy q)=true
  |[],qs,ps,_,hp=>hp
  |x::t,qs,ps,hb,hp=>by
    unfold R_ lt
    let Q:List Bs×List Bs×Int->Prop:=fun r=>∀ q∈r.2.1,G_ s.policy s.place (J_ s.policy q)=true
    have hb':∀ b∈t,b.up=true->G_ s.policy s.place (J_ s.policy b.to')=true:=fun b h=>hb b (List.mem_cons_of_mem _ h)
    refine lt1E (P:=Q) (fun _=>True) trivial fun v _=>?_
    refine bt (P:=Q) (fun _=>K3_ t _ _ hb' hp) fun _=>?_
    refine bt (P:=Q) (fun e=>K3_ t _ _ hb' fun q hq=>?_) fun _=>K3_ t _ _ hb' hp
    rcases rput_mem hq with h|h
    · exact hp q h
    · subst h;exact hb x (List.mem_cons_self ..) e
theorem leads_up {s:C_} (h:UpOk s) (shop key:Bs) (hd:List Pair):((Dt_ s.x.book.shops shop).getD ShopR.zero).sort=4\/∀ q∈(Ak_ s.x.book shop key hd).2.1,G_ s.policy s.place (J_ s.policy q)=true:=by
  by_cases e:((Dt_ s.x.book.shops shop).getD ShopR.zero).sort=4
  · exact .inl e
  · refine .inr ?_
    unfold Ak_
    let Q:List Bs×List Bs×Int->Prop:=fun r=>∀ q∈r.2.1,G_ s.policy s.place (J_ s.policy q)=true
    refine bt (P:=Q) (fun _=>fun q hq=>by cases hq) fun _=>?_
    refine bt (P:=Q) (fun q=>(e (by simpa using q)).elim) fun _=>?_
    exact K3_ s.x.book.binds [] [] h fun q hq=>by cases hq
section
variable {m:Mail} {tick:Int} {r:List Bs×List Bs×Int}
theorem Vx_ {gone:List OutR} (hs:Dw R s0 s) (hp:PoOk s0.policy) (hR:P_ s0.policy tick=R):∀ (t:List Bs) (n:Int) (x:C_),Dw R s0 x->(((Dt_ s.x.book.shops m.shop).getD ShopR.zero).sort=4\/∀ q∈t,G_ s0.policy s0.place (J_ s0.policy q)=true)->Dw R s0 (Ai_ s m tick r gone t n x).1
  |[],n,x,hx,_=>hx
  |q::t,n,x,hx,ht=>by
    unfold Ai_ lt
    let Q:C_×List OutR×Int×Int->Prop:=fun r=>Dw R s0 r.1
    refine lp1E (P:=Q) (fun y:C_=>Dw R s0 y/\∀ v:Nat,(v:Int)=J_ x.policy q->G_ s0.policy s0.place v=true\/(0<=B_ s0.policy s0.place v/\Tt y v+1-Tt s0 v<=Cn y (B_ s0.policy s0.place v).toNat R-Cn s0 (B_ s0.policy s0.place v).toNat R)) ?_ fun y hy=>?_
    · refine bt (P:=LoP _ _) (fun _=>?_) fun e=>?_
      · refine bt (P:=LoP _ _) (fun _=>hs) fun e=>?_
        have h:=hx.spend hp hR (to':=J_ x.policy q) (t:=tick) (by simpa using e)
        refine⟨h.1,fun v hv=>?_⟩
        have hT:Tt (Ap_ x (J_ x.policy q) tick).1 v=Tt x v:=by unfold Tt;rw[h.2.1]
        rw[hT]
        exact h.2.2 v hv
      · refine⟨hx,fun v hv=> .inl ?_⟩
        rcases ht with h|h
        · simp only[decide_eq_false_iff_not] at e
          exact (e h).elim
        · rw[hv,hx.po];exact h q (List.mem_cons_self ..)
    · have hr:=hy.1.raise (to':=J_ x.policy q) (m:=⟨0,m.shop,m.key,m.head,m.body,m.due,m.hops⟩) hy.2
      refine bt (P:=Q) (fun _=>hs) fun _=>?_
      exact Vx_ hs hp hR t _ _ hr (ht.imp id fun h q hq=>h q (List.mem_cons_of_mem _ hq))
theorem Mn_ (hs:Dw R s0 s) (hp:PoOk s0.policy) (hR:P_ s0.policy tick=R) (hr:((Dt_ s.x.book.shops m.shop).getD ShopR.zero).sort=4\/∀ q∈r.2.1,G_ s0.policy s0.place (J_ s0.policy q)=true):∀ (t:List Bs) (gone:List OutR) (n:Int) (x:C_),Dw R s0 x->Dw R s0 (O_ s m tick r t gone n x).1
  |[],gone,n,x,hx=>by
    unfold O_
    exact Vx_ hs hp hR _ _ _ hx hr
  |q::t,gone,n,x,hx=>by
    unfold O_ lt
    let Q:C_×List OutR×Int×Int->Prop:=fun r=>Dw R s0 r.1
    refine bt (P:=Q) (fun _=>Mn_ hs hp hR hr t _ _ x hx) fun _=>?_
    refine bt (P:=Q) (fun _=>hs) fun _=>?_
    exact bt (P:=Q) (fun _=>Mn_ hs hp hR hr t _ _ _ (hx.stock (Sr_ _ _ _))) fun _=>Mn_ hs hp hR hr t _ _ _ (hx.stock (Sr_ _ _ _))
theorem T9_ (hs:Dw R s0 s) (hp:PoOk s0.policy) (hR:P_ s0.policy tick=R):Dw R s0 (K_ s m tick).1:=by
  unfold K_ lt
  let Q:C_×List OutR×Int×Int->Prop:=fun r=>Dw R s0 r.1
  refine bt (P:=Q) (fun _=>hs) fun _=>?_
  have hl:=leads_up hs.up m.shop m.key m.head
  rw[hs.po,hs.pl] at hl
  exact Mn_ hs hp hR hl _ _ _ _ hs
theorem Mg_ (hp:PoOk s0.policy) (hR:P_ s0.policy tick=R):∀ (f:Nat) (gone:List OutR) (lost:Int) (x:C_),Ms_ gone lost x->wtk x.x.stock+wto gone<f->Dw R s0 x->Dw R s0 (A2_ tick f gone lost x).1
  |0,_,_,_,_,h,_=>by omega
  |f+1,gone,lost,x,hI,hf,hx=>by
    unfold A2_ lt
    let Q:C_×Int->Prop:=fun r=>Dw R s0 r.1
    refine bt (P:=Q) (fun e=>?_) fun _=>hx
    have hn:0<gone.length:=by simpa using e
    refine bt (P:=Q) (fun _=>Mg_ hp hR f _ _ _ (Mv_ hI hn) (On_ hn hf) hx) fun _=>?_
    have hm:MlOk (gt gone 0).mail:=hI.2.1 _ (Jb_ hn)
    refine bt (P:=Q) (fun _=>?_) fun e4=>?_
    · have h:=Gx_ (s:=x) (t:=tick) (k:=1) (x:=(gt gone 0).queue) hI.1
      exact Mg_ hp hR f _ _ _ (Mw_ hI h.1 h.2 hn) (Q0_ h.2 hn hf) (hx.note _ _ _)
    · simp only[Bool.or_eq_false_iff,decide_eq_false_iff_not,Bool.not_eq_false',decide_eq_true_eq] at e4
      have hs:=Ir_ (s:=x) (m:=⟨(I_ (gt gone 0).mail).id,(Ah_ x.x.stock (gt gone 0).queue).1.dead,(I_ (gt gone 0).mail).key,(I_ (gt gone 0).mail).head,(I_ (gt gone 0).mail).body,0,IntKind.wrap .u8 ((I_ (gt gone 0).mail).hops+1)⟩) (tick:=tick) hI.1 (Ku_ _)
      exact Mg_ hp hR f _ _ _ (Mx_ hI hs.1 hs.2.1 hn rfl hm e4.1 hs.2.2 rfl e4.2) (Oo_ hn hf rfl hm e4.1 hs.2.2 rfl e4.2) (T9_ hx hp hR)
theorem Pj_ {gone:List OutR} (h:StOk s) (hg:gone.length<=600/\∀ g∈gone,MlOk g.mail) (hp:PoOk s0.policy) (hR:P_ s0.policy tick=R) (hs:Dw R s0 s):Dw R s0 (At_ s gone tick).1:=
  Mg_ hp hR _ gone 0 s (Xi_ h hg) (Nat.lt_succ_self _) hs
end
section
variable {d:DeedR}
theorem settle_dw (h:StOk s) (hp:PoOk s0.policy) (hR:P_ s0.policy d.tick=R) (hs:Dw R s0 s):Dw R s0 (Ba_ s d).1:=by
  unfold Ba_ lt
  let Q:C_×U_×Int->Prop:=fun r=>Dw R s0 r.1
  refine bt (P:=Q) (fun _=>hs) fun _=>?_
  refine bt (P:=Q) (fun _=>hs.stock (V4_ _ _ _)) fun _=>?_
  have hr:=G8_ (n:=d.name) (id:=d.id) h.stk
  refine bt (P:=Q) (fun _=>Pj_ (A7_ h hr.1) ⟨by simp,fun g hg=>?_⟩ hp hR (hs.stock (N6_ _ _ _))) fun _=>hs.stock (N6_ _ _ _)
  rw[List.mem_singleton.1 hg];exact hr.2
theorem U2_ {t:Int} (hp:PoOk s0.policy) (hR:P_ s0.policy t=R):∀ (f:Nat) (gone:List OutR) (x:C_),StOk x->(∀ g∈gone,MlOk g.mail)->gone.length+nik x.x.stock<=512->nik x.x.stock<f->Dw R s0 x->Dw R s0 (Bw_ t f gone x).1
  |0,_,_,_,_,_,h,_=>by omega
  |f+1,gone,x,h,hg,hl,hf,hs=>by
    unfold Bw_ lt
    let Q:C_×U_->Prop:=fun r=>Dw R s0 r.1
    refine bt (P:=Q) (fun _=>Pj_ h ⟨by omega,hg⟩ hp hR hs) fun e=>?_
    have e':(Q_ x.x.stock t).2.2=true:=by simpa using e
    have hr:=G8_ (n:=(Q_ x.x.stock t).1) (id:=(Q_ x.x.stock t).2.1.id) h.stk
    refine U2_ hp hR f _ _ (A7_ h hr.1) (fun g q=>?_) (Tt_ h.stk rfl e' rfl hl) (Tu_ h.stk rfl e' rfl hf) (hs.stock (N6_ _ _ _))
    rcases List.mem_append.1 q with q|q
    · exact hg g q
    · rw[List.mem_singleton.1 q];exact Qc_ h.stk
theorem late_dw {t:Int} (h:StOk s) (hp:PoOk s0.policy) (hR:P_ s0.policy t=R) (hs:Dw R s0 s):Dw R s0 (Dg_ s t).1:=
  U2_ hp hR _ [] s h (fun _ h=>by cases h) (by have :=nik_r h.stk;simpa using this) (Nat.lt_succ_self _) hs
theorem put_dw (h:StOk s) (h0:0<=d.mail.hops) (hp:PoOk s0.policy) (hR:P_ s0.policy d.tick=R) (hs:Dw R s0 s):Dw R s0 (B9_ s d).1:=by
  unfold B9_ lt
  let Q:C_×U_×Int->Prop:=fun r=>Dw R s0 r.1
  have h1:=Ir_ (s:=s) (m:=I_ d.mail) (tick:=d.tick) h h0
  have hl:=Iq_ (s:=s) (m:=I_ d.mail) (tick:=d.tick) h
  exact bt (P:=Q) (fun _=>hs) fun _=>Pj_ h1.1 ⟨by omega,h1.2.1⟩ hp hR (T9_ hs hp hR)
theorem pull_dw (h:StOk s) (hp:PoOk s0.policy) (hR:P_ s0.policy d.tick=R) (hs:Dw R s0 s):Dw R s0 (Bz_ s d).1:=by
  unfold Bz_ lt
  let Q:C_×U_×Int->Prop:=fun r=>Dw R s0 r.1
  refine bt (P:=Q) (fun _=>hs) fun _=>?_
  refine bt (P:=Q) (fun _=>hs) fun _=>?_
  refine bt (P:=Q) (fun _=>hs) fun _=>?_
  let I:C_->Prop:=fun x=>StOk x/\Dw R s0 x
  refine lt1E (P:=Q) I ?_ fun x hx=>?_
  · exact bt (P:=I) (fun _=>⟨(Gx_ (Bn_ h)).1,hs.same rfl rfl (fun b hb=> .inl hb) rfl rfl⟩) fun _=>⟨Bn_ h,hs.same rfl rfl (fun b hb=> .inl hb) rfl rfl⟩
  · refine bt (P:=Q) (fun _=>hx.2.note _ _ _) fun _=>?_
    have h1:=Ir_ (s:=x) (m:=⟨(I_ d.mail).id,(I_ d.mail).shop,(I_ d.mail).key,(I_ d.mail).head,(I_ d.mail).body,(I_ d.mail).due,IntKind.wrap .u8 ((I_ d.mail).hops+1)⟩) (tick:=d.tick) hx.1 (Ku_ _)
    have hl:=Iq_ (s:=x) (m:=⟨(I_ d.mail).id,(I_ d.mail).shop,(I_ d.mail).key,(I_ d.mail).head,(I_ d.mail).body,(I_ d.mail).due,IntKind.wrap .u8 ((I_ d.mail).hops+1)⟩) (tick:=d.tick) hx.1
    exact Pj_ h1.1 ⟨by omega,h1.2.1⟩ hp hR (T9_ hx.2 hp hR)
theorem Z1_ (hs:Dw R s0 s):Dw R s0 (Bs_ s d).1:=by
  unfold Bs_ lt
  let Q:C_×Int->Prop:=fun r=>Dw R s0 r.1
  refine bt (P:=Q) (fun _=>hs.stock (Wk_ _ _)) fun _=>?_
  refine bt (P:=Q) (fun _=>hs.same rfl rfl (fun b hb=> .inl ?_) (Ov_ _ _) rfl) fun _=>hs.stock (Ov_ _ _)
  have hb:b∈(C1_ s.x.book d.name).binds:=hb
  unfold C1_ lt at hb
  rw[Qa_] at hb
  exact (List.mem_filter.1 hb).1
theorem lend_dw (hs:Dw R s0 s):Dw R s0 (Bj_ s d).1:=by
  unfold Bj_ lt
  let Q:C_×U_×Int->Prop:=fun r=>Dw R s0 r.1
  refine bt (P:=Q) (fun _=>hs) fun _=>?_
  exact bt (P:=Q) (fun _=>hs) fun _=>hs.stock (Wd_ _ _)
theorem Xe_ {b:BookR} {n:Bs}:∀ y∈(Cn_ b n).1.binds,y∈b.binds:=by
  unfold Cn_ lt
  let Q:BookR×Int->Prop:=fun r=>∀ y∈r.1.binds,y∈b.binds
  refine bt (P:=Q) (fun _ y hy=>hy) fun _ y hy=>?_
  dsimp only at hy
  rw[Qa_] at hy
  exact (List.mem_filter.1 hy).1
theorem Ta_ {b:BookR} {x:BindR}:∀ y∈(B1_ b x).1.binds,y∈b.binds:=by
  unfold B1_ lt
  let Q:BookR×Int->Prop:=fun r=>∀ y∈r.1.binds,y∈b.binds
  refine bt (P:=Q) (fun _ y hy=>hy) fun _ y hy=>?_
  dsimp only at hy
  simp only[List.flatten_cons,List.flatten_nil,List.append_nil] at hy
  rcases List.mem_append.1 hy with h|h
  · exact List.mem_of_mem_take h
  · exact List.mem_of_mem_drop h
theorem Xg_ {b:BookR} {x:ShopR}:∀ y∈(A5_ b x).1.binds,y∈b.binds:=by
  unfold A5_
  let Q:BookR×Int->Prop:=fun r=>∀ y∈r.1.binds,y∈b.binds
  exact bt (P:=Q) (fun _ y hy=>hy) fun _=>bt (P:=Q) (fun _ y hy=>hy) fun _=>bt (P:=Q) (fun _ y hy=>hy) fun _=>bt (P:=Q) (fun _ y hy=>hy) fun _ y hy=>hy
theorem Xd_ {b:BookR} {x:BindR}:∀ y∈(An_ b x).1.binds,y∈b.binds\/y=x:=by
  unfold An_ lt
  let Q:BookR×Int->Prop:=fun r=>∀ y∈r.1.binds,y∈b.binds\/y=x
  refine bt (P:=Q) (fun _ y hy=> .inl hy) fun _=>bt (P:=Q) (fun _ y hy=> .inl hy) fun _=>bt (P:=Q) (fun _ y hy=> .inl hy) fun _=>bt (P:=Q) (fun _ y hy=> .inl hy) fun _=>bt (P:=Q) (fun _ y hy=> .inl hy) fun _=>bt (P:=Q) (fun _ y hy=> .inl hy) fun _ y hy=>?_
  simp only[List.flatten_cons,List.flatten_nil,List.append_nil] at hy
  rcases List.mem_append.1 hy with h|h
  · exact .inl h
  · exact .inr (List.mem_singleton.1 h)
theorem shops_dw (hs:Dw R s0 s):Dw R s0 (B2_ s d).1:=by
  unfold B2_ lt
  let Q:C_×Int->Prop:=fun r=>Dw R s0 r.1
  have hn:∀ e,Q (s,e):=fun e=>hs
  refine bt (P:=Q) (fun _=>?_) fun _=>?_
  · refine lp0E (P:=Q) (fun _=>True) ?_ fun _=>hs.same rfl rfl (fun b hb=> .inl (Xg_ b hb)) rfl rfl
    refine bt (P:=LoP _ _) (fun _=>?_) fun _=>trivial
    refine bt (P:=LoP _ _) (fun _=>hn _) fun _=>?_
    exact bt (P:=LoP _ _) (fun _=>hn _) fun _=>trivial
  · refine bt (P:=Q) (fun _=>hs.same rfl rfl (fun b hb=> .inl (Xe_ b hb)) rfl rfl) fun _=>?_
    refine bt (P:=Q) (fun _=>hs.same rfl rfl (fun b hb=> .inl (Ta_ b hb)) rfl rfl) fun _=>?_
    refine lp0E (P:=Q) (fun _=>d.bind.up=true->G_ s.policy s.place (J_ s.policy d.bind.to')=true) ?_ fun hu=>hs.same rfl rfl (fun b hb=>?_) rfl rfl
    · refine lt1E (P:=LoP _ _) (fun _=>True) trivial fun v _=>?_
      refine bt (P:=LoP _ _) (fun _=>hn _) fun _=>?_
      refine bt (P:=LoP _ _) (fun _=>hn _) fun e hu=>?_
      rw[hu] at e
      simpa using e
    · rcases Xd_ b hb with h|h
      · exact .inl h
      · subst h;exact .inr hu
theorem do_dw (h:StOk s) (h0:0<=d.mail.hops) (hp:PoOk s0.policy) (hR:P_ s0.policy d.tick=R) (hs:Dw R s0 s):Dw R s0 (A9_ s d).1:=by
  unfold A9_ lt
  let Q:C_×U_×Int->Prop:=fun r=>Dw R s0 r.1
  refine bt (P:=Q) (fun _=>hs) fun _=>?_
  let I:Int×C_×U_->Prop:=fun r=>Dw R s0 r.2.1
  refine lt3E (P:=Q) I ?_ fun a b c hb=>bt (P:=Q) (fun _=>hs) fun _=>hb
  refine lt1E (P:=I) (fun _=>True) trivial fun v _=>?_
  refine bt (P:=I) (fun _=>Z1_ hs) fun _=>?_
  refine bt (P:=I) (fun _=>put_dw h h0 hp hR hs) fun _=>?_
  refine bt (P:=I) (fun _=>lend_dw hs) fun _=>?_
  refine bt (P:=I) (fun _=>settle_dw h hp hR hs) fun _=>?_
  refine bt (P:=I) (fun _=>late_dw h hp hR hs) fun _=>?_
  refine bt (P:=I) (fun _=>pull_dw h hp hR hs) fun _=>?_
  refine bt (P:=I) (fun _=>(hs.stock (W0_ _)).note _ _ _) fun _=>?_
  refine bt (P:=I) (fun _=>hs.same rfl rfl (fun b hb=> .inl hb) rfl rfl) fun _=>?_
  exact shops_dw hs
end
end Go.SW.V
namespace Go.SW.V
open Go.SW
theorem flows_in {p:PolicyR} {a b:Int} (h:G_ p a b=true):0<=b/\b<p.places.length:=by
  unfold G_ at h
  simp only[Ab_,Be_,Bool.and_eq_true,decide_eq_true_eq] at h
  omega
structure FlI (p:PolicyR) (r R:Int) (x:C_) (was:A16_u64) (sp:A16_i64):Prop where
  ok:StOk x
  po:x.policy=p
  pl:x.place=r
  up:UpOk x
  w:∀ v,v<16->A16.get was v=Tt x v/\0<=Tt x v/\Tt x v<=18446744073709551615
  s:∀ v:Nat,v<16->0<=A16.get sp v/\(0<=B_ p r v->A16.get sp v<=Cn x (B_ p r v).toNat R)
theorem cn_nn {x:C_} (h:StOk x) {g:Nat} (hg:g<8) (R:Int):0<=Cn x g R:=by
  unfold Cn
  split
  · exact (h.1.2.2.2 g hg).1
  · exact Int.le_refl _
theorem dw_self {x:C_} {R:Int} (hu:UpOk x) (hT:∀ v,v<16->0<=Tt x v/\Tt x v<=18446744073709551615):Dw R x x:=
  ⟨rfl,rfl,hu,fun v hv=>⟨(hT v hv).1,Int.le_refl _,(hT v hv).2, .inr (.inl rfl)⟩,fun g _=>⟨Int.le_refl _, .inl rfl⟩⟩
theorem Py_ {p:PolicyR} {r tick R:Int} {x:C_} {r4:C_×U_×Int} {y:DeedR} (hp:PoOk p) (hx:StOk x) (hxp:x.policy=p) (hxr:x.place=r) (hd:Dw R x r4.1):∀ (f v:Nat) (was:A16_u64) (sp:A16_i64),16<v+f->v<=16 ->
    (∀ u:Nat,u<16->(A16.get was u = if u<v then Tt r4.1 u else Tt x u)/\0<=A16.get sp u/\(0<=B_ p r u->A16.get sp u <= if u<v then Cn r4.1 (B_ p r u).toNat R else Cn x (B_ p r u).toNat R)) ->
    ∃ was' sp',Cf_ p r tick R r4 y f v was sp = .fin (R,max y.tick tick,r4.1,was',sp')/\∀ u:Nat,u<16->A16.get was' u=Tt r4.1 u/\0<=A16.get sp' u/\(0<=B_ p r u->A16.get sp' u<=Cn r4.1 (B_ p r u).toNat R)
  |0,v,was,sp,h1,h2,_=>by omega
  |f+1,v,was,sp,h1,h2,hI=>by
    unfold Cf_ lt
    by_cases hv:(v:Int)<16
    · have hv':v<16:=by omega
      rw[decide_eq_true hv,cond_true]
      have hr:Al_ (S_ r4.1).stock (v:Int)=A16.get r4.1.x.stock.rises v:=by
        unfold Al_
        rw[decide_eq_false (show ¬((v:Int)<0) by omega),decide_eq_false (show ¬(16<=(v:Int)) by omega)]
        rfl
      dsimp only
      rw[hr]
      rw[show B7_ (A16.get r4.1.x.stock.rises v)=Tt r4.1 v from rfl]
      have hIv:=hI v hv'
      rw[if_neg (Nat.lt_irrefl v),if_neg (Nat.lt_irrefl v)] at hIv
      rw[hIv.1]
      have hV:=hd.v v hv'
      have hV1:=hV.1
      have hV2:=hV.2.1
      have hV3:=hV.2.2.1
      have hw:IntKind.wrap .u64 (Tt r4.1 v-Tt x v)=Tt r4.1 v-Tt x v:=by rw[IntKind.wrap_u64];omega
      rw[hw]
      have hw2:IntKind.wrap .u64 (Tt x v+(Tt r4.1 v-Tt x v))=Tt r4.1 v:=by rw[IntKind.wrap_u64];omega
      rw[hw2]
      have hgb:=H3_ p r v
      have hgl:=hp.2.2.2.2.1
      have hwas:∀ u,u<16->A16.get (A16.set was (Tt r4.1 v) v) u = if u<v+1 then Tt r4.1 u else Tt x u:=fun u hu=>by
        rw[A16.get_set _ _ _ _ hv' hu]
        by_cases q:u=v
        · subst q;rw[if_pos rfl,if_pos (by omega)]
        · rw[if_neg q,(hI u hu).1]
          by_cases q2:u<v
          · rw[if_pos q2,if_pos (by omega)]
          · rw[if_neg q2,if_neg (by omega)]
      have hsp:∀ z:Int,0<=z->(0<=B_ p r v->z<=Cn r4.1 (B_ p r v).toNat R)->∀ u:Nat,u<16->0<=A16.get (A16.set sp z v) u/\(0<=B_ p r u->A16.get (A16.set sp z v) u <= if u<v+1 then Cn r4.1 (B_ p r u).toNat R else Cn x (B_ p r u).toNat R):=fun z h0 hz u hu=>by
        rw[A16.get_set _ _ _ _ hv' hu]
        by_cases q:u=v
        · subst q
          rw[if_pos rfl,if_pos (by omega)]
          exact⟨h0,hz⟩
        · rw[if_neg q]
          have :=(hI u hu).2
          refine⟨this.1,fun hg=>?_⟩
          have :=this.2 hg
          by_cases q2:u<v
          · rw[if_pos q2] at this;rw[if_pos (by omega)];exact this
          · rw[if_neg q2] at this;rw[if_neg (by omega)];exact this
      have hsp0:(0<=B_ p r v->A16.get sp v<=Cn r4.1 (B_ p r v).toNat R):=fun hg=>by
        have :=hIv.2.2 hg
        have :=(hd.g (B_ p r v).toNat (by omega)).1
        omega
      by_cases hA:(decide (Tt r4.1 v-Tt x v=0)||(decide ((v:Int)<p.places.length)&&G_ p r v))=true
      · rw[hA,cond_true]
        refine Py_ hp hx hxp hxr hd f (v+1) _ _ (by omega) (by omega) fun u hu=>⟨hwas u hu,?_⟩
        have hset:∀ u:Nat,u<16->A16.get (A16.set sp (A16.get sp v) v) u=A16.get sp u:=fun u hu=>by
          rw[A16.get_set _ _ _ _ hv' hu]
          by_cases q:u=v
          · rw[if_pos q,q]
          · rw[if_neg q]
        have :=hsp (A16.get sp v) hIv.2.1 hsp0 u hu
        rw[hset u hu] at this
        exact this
      · have hA':(decide (Tt r4.1 v-Tt x v=0)||(decide ((v:Int)<p.places.length)&&G_ p r v))=false:=by simpa using hA
        rw[hA',cond_false]
        simp only[Bool.or_eq_false_iff,Bool.and_eq_false_iff,decide_eq_false_iff_not] at hA'
        have h3:=hV.2.2.2
        rw[hxp,hxr] at h3
        rcases h3 with q|q|q
        · have :=flows_in q
          rcases hA'.2 with q2|q2
          · exact (q2 this.2).elim
          · rw[q] at q2;cases q2
        · exact (hA'.1 (by omega)).elim
        · have hgi:=Jq_ hp r v q.1
          have hG:=hd.g (B_ p r v).toNat (by omega)
          have hG1:=hG.1
          have hG2:=hG.2
          rw[hxp] at hG2
          have hC0:=cn_nn hx (g:=(B_ p r v).toNat) (by omega) R
          have hdiff:=q.2
          have hs1:=hIv.2.2 q.1
          have hs0:=hIv.2.1
          rw[decide_eq_false (show ¬((p.places.length:Int)<=v) by omega),decide_eq_false (show ¬(B_ p r v<0) by omega),decide_eq_false (show ¬(100<Tt r4.1 v-Tt x v) by omega),Bool.or_false,Bool.or_false,cond_false]
          have hw3:IntKind.wrap .i64 (Tt r4.1 v-Tt x v)=Tt r4.1 v-Tt x v:=by rw[IntKind.wrap_i64];omega
          rw[hw3,A16.get_set _ _ _ _ hv' hv',if_pos rfl]
          rw[decide_eq_false (show ¬((gt p.grants (B_ p r v).toNat).budget<A16.get sp v+(Tt r4.1 v-Tt x v)) by omega),cond_false]
          exact Py_ hp hx hxp hxr hd f (v+1) _ _ (by omega) (by omega) fun u hu=>⟨hwas u hu,hsp _ (by omega) (fun _=>by omega) u hu⟩
    · have :v=16:=by omega
      subst this
      rw[decide_eq_false hv,cond_false]
      refine⟨was,sp,rfl,fun u hu=>?_⟩
      have :=hI u hu
      rw[if_pos hu,if_pos hu] at this
      exact this
theorem round_eq {p:PolicyR} (hl:0<p.slots.length) {t:Int} (h:0<=t/\t<=18446744073709551615):Jf_ (J6_ p) t=P_ p t:=by
  rw[to_eq]
  unfold Jf_ P_
  have h1:0<=t%(p.slots.length:Int):=Int.emod_nonneg _ (by omega)
  have h2:t%(p.slots.length:Int)<=t:=by
    have :=Int.mul_ediv_add_emod t (p.slots.length:Int)
    have :=Int.mul_nonneg (show (0:Int)<=p.slots.length by omega) (Int.ediv_nonneg h.1 (show (0:Int)<=p.slots.length by omega))
    omega
  have hw:IntKind.wrap .u64 (t-t%(p.slots.length:Int))=t-t%(p.slots.length:Int):=by rw[IntKind.wrap_u64];omega
  rw[hw]
  have h3:t-t%(p.slots.length:Int)=p.slots.length*(t/p.slots.length):=by
    have :=Int.mul_ediv_add_emod t (p.slots.length:Int)
    omega
  rw[h3,Int.mul_ediv_cancel_left _ (by omega)]
def z16:A16_i64:=⟨0,0,0,0,0,0,0,0,0,0,0,0,0,0,0,0⟩
theorem z16_get (v:Nat):A16.get z16 v=0:=by
  unfold A16.get
  repeat' split
  all_goals rfl
theorem Wa_ {p:PolicyR} {r:Int} (hp:PoOk p) {d:DeedR} {tick:Int} {x:C_} {was:A16_u64} {sp:A16_i64} (hd:DdOk d/\0<=d.mail.hops/\0<=d.tick/\d.tick<=18446744073709551615) (ht:0<=tick/\tick<=18446744073709551615) (hI:FlI p r (P_ p tick) x was sp) (t:List DeedR):∃ x' was' sp',Ay_ p r (d::t) (P_ p tick) tick x was sp=Ay_ p r t (P_ p (max d.tick tick)) (max d.tick tick) x' was' sp'/\FlI p r (P_ p (max d.tick tick)) x' was' sp':=by
  have htk:0<=max d.tick tick/\max d.tick tick<=18446744073709551615:=by omega
  have hsl:=hp.2.2.1
  rw[Ay_.eq_2]
  unfold lt
  dsimp only
  rw[round_eq hsl htk]
  obtain⟨sp',hsp,hs'⟩:∃ sp',(bif !decide (P_ p (max d.tick tick)=P_ p tick) then (P_ p (max d.tick tick),(⟨0,0,0,0,0,0,0,0,0,0,0,0,0,0,0,0⟩:A16_i64)) else (P_ p tick,sp))=(P_ p (max d.tick tick),sp')/\∀ v:Nat,v<16->0<=A16.get sp' v/\(0<=B_ p r v->A16.get sp' v<=Cn x (B_ p r v).toNat (P_ p (max d.tick tick))):=by
    by_cases q:P_ p (max d.tick tick)=P_ p tick
    · rw[decide_eq_true q,q]
      exact⟨sp,rfl,hI.s⟩
    · rw[decide_eq_false q]
      refine⟨z16,rfl,fun v hv=>?_⟩
      rw[z16_get]
      refine⟨Int.le_refl _,fun hg=>cn_nn hI.ok ?_ _⟩
      have :=H3_ p r v
      have :=hp.2.2.2.2.1
      omega
  rw[hsp]
  generalize hR:P_ p (max d.tick tick)=R at *
  have hp':PoOk x.policy:=by rw[hI.po];exact hp
  have hdo:=do_dw (s0:=x) (s:=x) (R:=R) (d:=⟨d.kind,max d.tick tick,d.shop,d.queue,d.bind,d.name,d.id,d.how,d.frm,d.code,d.number,d.mail,d.text⟩) hI.ok hd.2.1 hp' (by rw[hI.po];exact hR) (dw_self hI.up fun v hv=>(hI.w v hv).2)
  have hok:=Xu_ (s:=x) (d:=⟨d.kind,max d.tick tick,d.shop,d.queue,d.bind,d.name,d.id,d.how,d.frm,d.code,d.number,d.mail,d.text⟩) hI.ok hd.1 hd.2.1
  generalize A9_ x ⟨d.kind,max d.tick tick,d.shop,d.queue,d.bind,d.name,d.id,d.how,d.frm,d.code,d.number,d.mail,d.text⟩=r4 at *
  obtain⟨was',sp'',e,hJ⟩:=Py_ (tick:=tick) (y:=d) hp hI.ok hI.po hI.pl hdo (16-0+1) 0 was sp' (by decide) (by decide) fun u hu=>by
    rw[if_neg (by omega),if_neg (by omega)]
    exact⟨(hI.w u hu).1,hs' u hu⟩
  have e1:lt2 (R,sp') (fun round2 x6=>Cf_ p r tick round2 r4 d (16-0+1) 0 was x6) = .fin (R,max d.tick tick,r4.1,was',sp''):=e
  rw[e1]
  have hT:∀ v,v<16->A16.get was' v=Tt r4.1 v/\0<=Tt r4.1 v/\Tt r4.1 v<=18446744073709551615:=fun v hv=>by
    have :=hdo.v v hv
    exact⟨(hJ v hv).1,Int.le_trans this.1 this.2.1,this.2.2.1⟩
  exact⟨r4.1,was',sp'',rfl,hok,hdo.po.trans hI.po,hdo.pl.trans hI.pl,hdo.up,hT,fun v hv=>(hJ v hv).2⟩
theorem flows_l0 {p:PolicyR} {r:Int} (hp:PoOk p) (l:List DeedR):∀ (tick:Int) (x:C_) (was:A16_u64) (sp:A16_i64),(∀ d∈l,DdOk d/\0<=d.mail.hops/\0<=d.tick/\d.tick<=18446744073709551615)->0<=tick/\tick<=18446744073709551615->FlI p r (P_ p tick) x was sp->Ay_ p r l (P_ p tick) tick x was sp=true:=by
  induction l with
  |nil=>intro tick x was sp _ _ _;rfl
  |cons d t ih=>
    intro tick x was sp hl ht hI
    have hd:=hl d (List.mem_cons_self ..)
    obtain⟨x',was',sp',e,h⟩:=Wa_ hp hd ht hI t
    rw[e]
    exact ih _ _ _ _ (fun y hy=>hl y (List.mem_cons_of_mem _ hy)) (by omega) h
theorem Tk_:I4_=true:=by decide +kernel
theorem new_T (p:PolicyR) (r:Int) (v:Nat):Tt (B8_ p r) v=0:=by
  have :(B8_ p r).x.stock.rises.get v=⟨0,[]⟩:=by
    unfold B8_ lt Dc_ Db_
    unfold A16.get
    repeat' split
    all_goals rfl
  unfold Tt;rw[this]
theorem law23_flows (p:PolicyR) (place:Int) (l:List DeedR) (hw:∀ d∈l,0<=d.mail.hops/\0<=d.tick/\d.tick<=18446744073709551615):Fe_ p place l=true:=by
  unfold Fe_
  rw[Tk_,Bool.not_true,cond_false]
  cases hm:Kb_ p with
  |false=>rfl
  |true=>
    cases hL:He_ l with
    |false=>rfl
    |true=>
      have hpm:=Yp_ hm
      have hp:=hpm.1
      have hr:=at_r p place hpm.2.1
      have hdd:=Y1_ hL
      have h0:P_ p 0=0:=by unfold P_;exact Int.zero_ediv _
      show Ay_ p (J7_ p place) l 0 0 (B8_ p (J7_ p place)) (⟨0,0,0,0,0,0,0,0,0,0,0,0,0,0,0,0⟩:A16_u64) z16=true
      have :=flows_l0 (p:=p) (r:=J7_ p place) hp l 0 (B8_ p (J7_ p place)) (⟨0,0,0,0,0,0,0,0,0,0,0,0,0,0,0,0⟩:A16_u64) z16 (fun d hd=>⟨hdd.1.1 d hd,hw d hd⟩) (by decide) ⟨Vc_ hp hr,rfl,rfl,(fun b hb=>by cases hb),(fun v hv=>?_),fun v hv=>?_⟩
      · rw[h0] at this;exact this
      · rw[new_T]
        refine⟨?_,by decide,by decide⟩
        unfold A16.get
        repeat' split
        all_goals rfl
      · rw[z16_get]
        refine⟨Int.le_refl _,fun _=>cn_nn (Vc_ hp hr) ?_ _⟩
        have :=H3_ p (J7_ p place) v
        have :=hp.2.2.2.2.1
        omega
theorem deeds_wf {l:List DeedR} (h:(PV.sl DeedR.pc l).wf):∀ d∈l,0<=d.mail.hops/\0<=d.tick/\d.tick<=18446744073709551615:=fun d hd=>by
  have h1:=h.2 d hd
  have h2:=h1.2.2.2.2.2.2.2.2.2.2.2.2.2.2.2.2.2.2.2.2.2.2.2.2.2.2.2.1
  have h3:=h1.2.1
  exact⟨h2.1,h3.1,h3.2⟩
end Go.SW.V
