/-
  A part of the proof of StoreBuries: The walks of this seat, printed by program: store.Store.bury, store.Store.settle, store.Store.late, store.Store.pull, store.Store.put, store.Store.Do.
-/
import Derived.Test.YtkngbefdgkfjmaaGreatDoorProg
import Derived.Test.YtkngbefdgkfjmaaGreatDoorStoreBuriesP3
import Derived.KernelRfl
import Derived.Test.YtkngbefdgkfjmaaGreatDoorStoreBuriesP5
import Derived.Test.YtkngbefdgkfjmaaGreatDoorStoreBuriesP4
set_option linter.unusedVariables false
set_option linter.unusedSimpArgs false
set_option maxRecDepth 100000
set_option maxHeartbeats 4000000
namespace Go.SW.V
open Go.SW Go.Proofs
abbrev R19_:(H_×ItemR×Int)->PV:=fun r=> .tup [.agg (H_.pc r.1), .agg (ItemR.pc r.2.1), .int .i64 r.2.2]
abbrev R20_:(Bs×Mail×Bool)->PV:=fun r=> .tup [.str r.1, .agg (Mail.pc r.2.1), .bool r.2.2]
abbrev R21_:B_->PV:=fun r=> .agg (B_.pc r)
abbrev R22_:(B_×X_×Int)->PV:=fun r=> .tup [.agg (B_.pc r.1), .agg (X_.pc r.2.1), .int .i64 r.2.2]
abbrev R23_:(B_×X_)->PV:=fun r=> .tup [.agg (B_.pc r.1), .agg (X_.pc r.2)]
theorem cb119:Z_ Tryz.prog 119:=U_ Tryz.func119 (by kernel_rfl) (by kernel_rfl)
theorem X0_:Fld Tryz.prog 230 0 0:=fun b o w=>by kernel_rfl
theorem fl230_1:Fld Tryz.prog 230 1 1:=fun b o w=>by kernel_rfl
theorem sz36:Sz Tryz.prog 36 1:=fun w=>by kernel_rfl
def tbv98:Tb:=[(3,ty3),(5,ty5),(9,ty9),(22,ty22),(26,ty26),(36,ty36),(43,ty43),(46,ty46),(52,ty52),(54,ty54),(60,ty60),(65,ty65),(67,ty67),(75,ty75),(77,ty77),(94,ty94),(160,ty160),(216,ty216),(230,ty230)]
theorem tv98:tbB Tryz.prog tbv98=true:=by kernel_rfl
theorem Ek_ (s:B_) (gone:List OutR) (tick:Int) (hs:StOk s:=by assumption) (hg:gone.length<=600/\∀ g∈gone,MlOk g.mail:=by first|assumption|exact⟨by omega,by assumption⟩):Fx Tryz.prog gb 119 (.agg (B_.pc s)) [.int .u64 tick] (.tup [.agg (B_.pc ((An_ s gone tick).1)), .int .i64 ((An_ s gone tick).2)]) 8 230 OutR.pc gone:=by
  refine fx_cw tv98 Tryz.func119 rfl Tryz.ntmps119 rfl cb119 rfl rfl fun w gone_l u0 N H hG=>?_;have s_x_book_shops_l:s.x.book.shops.length<=140737488355328:=w.1.1.1;have s_x_book_binds_l:s.x.book.binds.length<=140737488355328:=w.1.2.1.1;have s_x_stock_next_r:0<=s.x.stock.next /\ s.x.stock.next <= 18446744073709551615:=w.1.2.2.1;have s_x_stock_bytes_r:-9223372036854775808<=s.x.stock.bytes/\s.x.stock.bytes<=9223372036854775807:=w.1.2.2.2.1;have s_x_stock_rows_l:s.x.stock.rows.length<=140737488355328:=w.1.2.2.2.2.1.1;have s_x_notes_total_r:0<=s.x.notes.total/\s.x.notes.total<=18446744073709551615:=w.1.2.2.2.2.2.2.2.2.2.2.2.2.2.2.2.2.2.2.2.2.2.2.2.2.2.2.2.2.2.2.2.2.2.2.2.2.2.1;have s_x_notes_kept_l:s.x.notes.kept.length<=140737488355328:=w.1.2.2.2.2.2.2.2.2.2.2.2.2.2.2.2.2.2.2.2.2.2.2.2.2.2.2.2.2.2.2.2.2.2.2.2.2.2.2.1.1;have s_x_seen_e0_r:0<=s.x.seen.e0/\s.x.seen.e0<=18446744073709551615:=w.1.2.2.2.2.2.2.2.2.2.2.2.2.2.2.2.2.2.2.2.2.2.2.2.2.2.2.2.2.2.2.2.2.2.2.2.2.2.2.2.1;have s_x_seen_e1_r:0<=s.x.seen.e1/\s.x.seen.e1<=18446744073709551615:=w.1.2.2.2.2.2.2.2.2.2.2.2.2.2.2.2.2.2.2.2.2.2.2.2.2.2.2.2.2.2.2.2.2.2.2.2.2.2.2.2.2.1;have s_x_seen_e2_r:0<=s.x.seen.e2/\s.x.seen.e2<=18446744073709551615:=w.1.2.2.2.2.2.2.2.2.2.2.2.2.2.2.2.2.2.2.2.2.2.2.2.2.2.2.2.2.2.2.2.2.2.2.2.2.2.2.2.2.2.1;have s_x_seen_e3_r:0<=s.x.seen.e3/\s.x.seen.e3<=18446744073709551615:=w.1.2.2.2.2.2.2.2.2.2.2.2.2.2.2.2.2.2.2.2.2.2.2.2.2.2.2.2.2.2.2.2.2.2.2.2.2.2.2.2.2.2.2.1;have s_x_seen_e4_r:0<=s.x.seen.e4/\s.x.seen.e4<=18446744073709551615:=w.1.2.2.2.2.2.2.2.2.2.2.2.2.2.2.2.2.2.2.2.2.2.2.2.2.2.2.2.2.2.2.2.2.2.2.2.2.2.2.2.2.2.2.2.1;have s_x_seen_e5_r:0<=s.x.seen.e5/\s.x.seen.e5<=18446744073709551615:=w.1.2.2.2.2.2.2.2.2.2.2.2.2.2.2.2.2.2.2.2.2.2.2.2.2.2.2.2.2.2.2.2.2.2.2.2.2.2.2.2.2.2.2.2.2.1;have s_x_seen_e6_r:0<=s.x.seen.e6/\s.x.seen.e6<=18446744073709551615:=w.1.2.2.2.2.2.2.2.2.2.2.2.2.2.2.2.2.2.2.2.2.2.2.2.2.2.2.2.2.2.2.2.2.2.2.2.2.2.2.2.2.2.2.2.2.2.1;have s_x_seen_e7_r:0<=s.x.seen.e7/\s.x.seen.e7<=18446744073709551615:=w.1.2.2.2.2.2.2.2.2.2.2.2.2.2.2.2.2.2.2.2.2.2.2.2.2.2.2.2.2.2.2.2.2.2.2.2.2.2.2.2.2.2.2.2.2.2.2.1;have s_x_seen_e8_r:0<=s.x.seen.e8/\s.x.seen.e8<=18446744073709551615:=w.1.2.2.2.2.2.2.2.2.2.2.2.2.2.2.2.2.2.2.2.2.2.2.2.2.2.2.2.2.2.2.2.2.2.2.2.2.2.2.2.2.2.2.2.2.2.2.2.1;have s_x_seen_e9_r:0<=s.x.seen.e9/\s.x.seen.e9<=18446744073709551615:=w.1.2.2.2.2.2.2.2.2.2.2.2.2.2.2.2.2.2.2.2.2.2.2.2.2.2.2.2.2.2.2.2.2.2.2.2.2.2.2.2.2.2.2.2.2.2.2.2.2.1;have s_x_seen_e10_r:0<=s.x.seen.e10/\s.x.seen.e10<=18446744073709551615:=w.1.2.2.2.2.2.2.2.2.2.2.2.2.2.2.2.2.2.2.2.2.2.2.2.2.2.2.2.2.2.2.2.2.2.2.2.2.2.2.2.2.2.2.2.2.2.2.2.2.2.1;have s_x_seen_e11_r:0<=s.x.seen.e11/\s.x.seen.e11<=18446744073709551615:=w.1.2.2.2.2.2.2.2.2.2.2.2.2.2.2.2.2.2.2.2.2.2.2.2.2.2.2.2.2.2.2.2.2.2.2.2.2.2.2.2.2.2.2.2.2.2.2.2.2.2.2.1;have s_x_seen_e12_r:0<=s.x.seen.e12/\s.x.seen.e12<=18446744073709551615:=w.1.2.2.2.2.2.2.2.2.2.2.2.2.2.2.2.2.2.2.2.2.2.2.2.2.2.2.2.2.2.2.2.2.2.2.2.2.2.2.2.2.2.2.2.2.2.2.2.2.2.2.2.1;have s_x_seen_e13_r:0<=s.x.seen.e13/\s.x.seen.e13<=18446744073709551615:=w.1.2.2.2.2.2.2.2.2.2.2.2.2.2.2.2.2.2.2.2.2.2.2.2.2.2.2.2.2.2.2.2.2.2.2.2.2.2.2.2.2.2.2.2.2.2.2.2.2.2.2.2.2.1;have s_x_seen_e14_r:0<=s.x.seen.e14/\s.x.seen.e14<=18446744073709551615:=w.1.2.2.2.2.2.2.2.2.2.2.2.2.2.2.2.2.2.2.2.2.2.2.2.2.2.2.2.2.2.2.2.2.2.2.2.2.2.2.2.2.2.2.2.2.2.2.2.2.2.2.2.2.2.1;have s_x_seen_e15_r:0<=s.x.seen.e15/\s.x.seen.e15<=18446744073709551615:=w.1.2.2.2.2.2.2.2.2.2.2.2.2.2.2.2.2.2.2.2.2.2.2.2.2.2.2.2.2.2.2.2.2.2.2.2.2.2.2.2.2.2.2.2.2.2.2.2.2.2.2.2.2.2.2.1;have s_policy_work_r:-9223372036854775808<=s.policy.work/\s.policy.work<=9223372036854775807:=w.1.2.2.2.2.2.2.2.2.2.2.2.2.2.2.2.2.2.2.2.2.2.2.2.2.2.2.2.2.2.2.2.2.2.2.2.2.2.2.2.2.2.2.2.2.2.2.2.2.2.2.2.2.2.2.2.2.2.2.2.2.2.2.2.2.2.2.2.2.2.2.2.1;have s_policy_give_r:-9223372036854775808<=s.policy.give/\s.policy.give<=9223372036854775807:=w.1.2.2.2.2.2.2.2.2.2.2.2.2.2.2.2.2.2.2.2.2.2.2.2.2.2.2.2.2.2.2.2.2.2.2.2.2.2.2.2.2.2.2.2.2.2.2.2.2.2.2.2.2.2.2.2.2.2.2.2.2.2.2.2.2.2.2.2.2.2.2.2.2.1;have s_policy_places_l:s.policy.places.length<=140737488355328:=w.1.2.2.2.2.2.2.2.2.2.2.2.2.2.2.2.2.2.2.2.2.2.2.2.2.2.2.2.2.2.2.2.2.2.2.2.2.2.2.2.2.2.2.2.2.2.2.2.2.2.2.2.2.2.2.2.2.2.2.2.2.2.2.2.2.2.2.2.2.2.2.2.2.2.1.1;have s_policy_slots_l:s.policy.slots.length<=140737488355328:=w.1.2.2.2.2.2.2.2.2.2.2.2.2.2.2.2.2.2.2.2.2.2.2.2.2.2.2.2.2.2.2.2.2.2.2.2.2.2.2.2.2.2.2.2.2.2.2.2.2.2.2.2.2.2.2.2.2.2.2.2.2.2.2.2.2.2.2.2.2.2.2.2.2.2.2.1.1;have s_policy_grants_l:s.policy.grants.length<=140737488355328:=w.1.2.2.2.2.2.2.2.2.2.2.2.2.2.2.2.2.2.2.2.2.2.2.2.2.2.2.2.2.2.2.2.2.2.2.2.2.2.2.2.2.2.2.2.2.2.2.2.2.2.2.2.2.2.2.2.2.2.2.2.2.2.2.2.2.2.2.2.2.2.2.2.2.2.2.2.1.1;have s_place_r:-9223372036854775808<=s.place/\s.place<=9223372036854775807:=w.1.2.2.2.2.2.2.2.2.2.2.2.2.2.2.2.2.2.2.2.2.2.2.2.2.2.2.2.2.2.2.2.2.2.2.2.2.2.2.2.2.2.2.2.2.2.2.2.2.2.2.2.2.2.2.2.2.2.2.2.2.2.2.2.2.2.2.2.2.2.2.2.2.2.2.2.2.1;have tick_r:0<=tick/\tick<=18446744073709551615:=w.2.1;have hs0:=hs;obtain⟨⟨⟨hb1,hb2,hb3⟩,hk0,hn,hu⟩,hp0,hq1,hq2⟩:=hs0;have hpp:=hp0;obtain⟨hp1,hp2,hp3,hp4,hp5,hp6,hp7⟩:=hpp;have hk1:=hk0;obtain⟨⟨hr1,hr2,hr3⟩,hr4,hr5,hr6⟩:=hk1;have hgg:=hg;obtain⟨hg1,hg2⟩:=hgg;have e0:=An_.eq_1 s gone tick;refine gm tv98 14 [1,2] fun B2=>?_;refine loop (ι:=Nat×(List OutR)×Int×B_×Value) [2,3,6,7] [2] (fun ⟨f,gone1,lost,x,u_gone1⟩=>[(1, .osl 0),(8, .int .i64 lost)]) (fun ⟨f,gone1,lost,x,u_gone1⟩=>[(0, .arr u_gone1 8 230 OutR.pc gone1),(1, .box (B2 0) 54 (B_.pc x))]) (fun ⟨f,gone1,lost,x,u_gone1⟩=>wtk x.x.stock+wto gone1<f/\An_ s gone tick=Ba_ tick f gone1 lost x/\Of_ gone1 lost x) (fun ⟨f,gone1,lost,x,u_gone1⟩=>f) ⟨(wtk s.x.stock+wto gone+1),gone,0,s,(u0)⟩ ⟨rfl,rfl,trivial⟩ ⟨rfl,rfl,trivial⟩ ?_ ?_
  · exact⟨Nat.lt_succ_self _,e0,buryI0 (by assumption) (by assumption)⟩
  rintro⟨f,gone1,lost,x,u_gone1⟩ ⟨hp4_1,hp4_2,hp4_3⟩;have hI:=hp4_3;obtain⟨hi1,hi2,hi3,hi4⟩:=hp4_3;obtain⟨f1,rfl⟩:∃ q,f=q+1:=⟨f-1,by omega⟩;have e_f1:=hp4_2.trans (Ba_.eq_2 _ _ _ _ _);refine gx tv98 8 ?_;refine cD e_f1 (fun p6 e7=>?_) (fun p64 e65=>?_)
  · refine gx tv98 5 ?_;refine H7_ (ι:=Nat) [1,2,3,6,7,8] [0,1,2] (fun b8=>[(9, .own 3 b8 0)]) (fun b8=>[(3, .box b8 60 (E_.pc ((W_ x.x.stock ((gt gone1 0).queue)).1)))]) (fun b8=>PV.wf (.tup [.agg (E_.pc ((W_ x.x.stock ((gt gone1 0).queue)).1)), .bool ((W_ x.x.stock ((gt gone1 0).queue)).2)])) ?_ ?_
    · refine aN [3,4,5,6,7,8,9,10] 14 mixd ?_;refine gX tv98 [0,1,2,3] 10 ?_;refine vq 4 (eidx 0 tv98 rfl rfl rfl rfl rfl rfl rfl rfl (by omega)) rfl (by kernel_rfl) rfl fun w9=>?_;refine vq 5 (efld rfl X0_) rfl (by kernel_rfl) rfl fun w10=>?_;refine veL 6 [11] (by kernel_rfl) ⟨⟨_,rfl,?_⟩,⟨_,rfl,?_⟩,trivial⟩
      · have hc11:=getG (xs:=gone1) (k:=0) (by omega);have hz_hc11:=hi2 (gt gone1 0) (List.mem_of_getElem? hc11);have hy_hc11:=And.intro hz_hc11.1 hz_hc11.2.2.2;refine ej rfl (elod1 (i:=0) (.str ((gt gone1 0).queue)) 0 0 tv98 rfl rfl rfl rfl hc11 rfl rfl rfl rfl fun w12=>?_);refine vC 7 rfl (Dh_ x.x.stock _) rfl fun w13=>?_;refine gX tv98 [8,9,10] 3 ?_;refine vE 11 rfl (aL tv98 3 fun b14=>?_);refine vE 12 rfl (sA tv98 ?_);refine gX tv98 [13] 0 ?_;refine vD ?_;refine nX (b14) ?_ ⟨rfl,trivial⟩ ⟨rfl,trivial⟩;exact w13
      refine ej rfl (aL tv98 3 fun b15=>?_);have hc16:=getG (xs:=gone1) (k:=0) (by omega);have hz_hc16:=hi2 (gt gone1 0) (List.mem_of_getElem? hc16);have hy_hc16:=And.intro hz_hc16.1 hz_hc16.2.2.2;refine vE 6 rfl (elod1 (i:=0) (.str ((gt gone1 0).queue)) 0 0 tv98 rfl rfl rfl rfl hc16 rfl rfl rfl rfl fun w17=>?_);refine vC 7 rfl (Dh_ x.x.stock _) rfl fun w18=>?_;refine gX tv98 [8,9,10] 2 ?_;refine vE 12 rfl (sA tv98 ?_);refine gX tv98 [13] 0 ?_;refine vD ?_;refine nX (b15) ?_ ⟨rfl,trivial⟩ ⟨rfl,trivial⟩;exact w18
    generalize hr19:W_ x.x.stock ((gt gone1 0).queue)=r;rintro b8 w20;have e21:=e7.trans (F1_ hr19.symm);refine gx tv98 9 ?_;refine cD e21 (fun p23 e24=>?_) (fun p26 e27=>?_)
    · refine gx tv98 6 ?_;refine ef (ecut1 tv98 rfl rfl rfl rfl rfl rfl rfl rfl (by omega) (by first|omega|(simp only[List.length_append];omega)) rfl fun u25=>?_);refine gx tv98 2 ?_;refine next ⟨f1,(gone1.drop 1),lost,x,(u25)⟩ rfl rfl ⟨rfl,rfl,trivial⟩ ⟨rfl,rfl,trivial⟩ ?_ ?_
      · (try simp only[]);omega
      exact⟨(by first|exact Qt_ (by omega) (by omega)|exact Ug_ (by assumption) (by omega) (by omega)|exact Qu_ (m:=_) (by omega) (by omega) (by first|assumption|exact Eq.symm (by assumption)) (by assumption) (by assumption) (by assumption) rfl (by assumption)),e24,(by first|exact O9_ (by assumption) (by omega)|exact Pa_ (by assumption) (by assumption) (by assumption) (by omega)|exact Pb_ (m:=_) (by assumption) (by assumption) (by assumption) (by omega) (by first|assumption|exact Eq.symm (by assumption)) (by assumption) (by assumption) (by assumption) rfl (by assumption))⟩
    refine gx tv98 5 ?_;refine q1 (eidx 0 tv98 rfl rfl rfl rfl rfl rfl rfl rfl (by omega)) rfl fun w28=>?_;refine q1 (efld rfl fl230_1) rfl fun w29=>?_;have hc30:=getG (xs:=gone1) (k:=0) (by omega);have hz_hc30:=hi2 (gt gone1 0) (List.mem_of_getElem? hc30);have hy_hc30:=And.intro hz_hc30.1 hz_hc30.2.2.2;refine ef (elodA (i:=0) [.int .u64 ((gt gone1 0).mail.id), .str ((gt gone1 0).mail.shop), .str ((gt gone1 0).mail.key), .sl Pair.pc ((gt gone1 0).mail.head), .str ((gt gone1 0).mail.body), .int .u64 ((gt gone1 0).mail.due), .int .u8 ((gt gone1 0).mail.hops)] 0 1 tv98 rfl rfl rfl rfl rfl hc30 rfl rfl (by decide) rfl fun w31=>?_);refine cV e27 R1_ (Ef_ _) rfl fun r1 hr32 e34 w33=>?_;have hA34:=Qx_ ((gt gone1 0).mail)
    (try rw[<- hr32] at hA34)
    have :=wr_u8 (r1.hops+1);refine gm tv98 28 [4] fun B37=>?_;refine ef (ecallo 5 (D1_ _ (⟨r1.id,(r.1).dead,r1.key,r1.head,r1.body,0,(IntKind.wrap .u8 (r1.hops+1))⟩:Mail) _ (hm:=by dsimp only;exact⟨by omega,by omega⟩)) rfl rfl ?_);generalize hr40:I_ x (⟨r1.id,(r.1).dead,r1.key,r1.head,r1.body,0,(IntKind.wrap .u8 (r1.hops+1))⟩:Mail) tick=r2;intro u39 w38;have e41:=e34.trans (F1_ hr40.symm);have hr40:=hr40.symm
    (try have hA41:=Lw_ (s:=x) (m:=(⟨r1.id,(r.1).dead,r1.key,r1.head,r1.body,0,(IntKind.wrap .u8 (r1.hops+1))⟩:Mail)) (tick:=tick) (by first|assumption|exact Bt_ (by assumption)) (by (try dsimp only);first|omega|exact Od_ _);(try rw[<- hr40] at hA41);obtain⟨hA41_0,hA41_1,hA41_2⟩:=hA41)
    (try have hA42:=Lc_ (s:=x) (m:=(⟨r1.id,(r.1).dead,r1.key,r1.head,r1.body,0,(IntKind.wrap .u8 (r1.hops+1))⟩:Mail)) (tick:=tick) (by first|assumption|exact Bt_ (by assumption));(try rw[<- hr40] at hA42))
    refine gmy tv98 24 [6] fun B45=>?_;refine cE e41 (fun h46 e47=>?_) (fun h46 e61=>?_)
    · refine gx tv98 1 ?_;refine aN [7,8,9,10,11,12] 8 mixd ?_;refine gX tv98 [0,1,2] 5 ?_;refine vq 3 (eidx 0 tv98 rfl rfl rfl rfl rfl rfl rfl rfl (by omega)) rfl (by kernel_rfl) rfl fun w48=>?_;refine vq 4 (efld rfl X0_) rfl (by kernel_rfl) rfl fun w49=>?_;refine vE 5 rfl (elod1 (i:=0) (.str ((gt gone1 0).queue)) 0 0 tv98 rfl rfl rfl rfl hc30 rfl rfl rfl rfl fun w50=>?_);refine vE 6 rfl (eC (D0_ x _ _ _ (hn:=by exact st_nts (by first|assumption|exact Bt_ (by assumption)))) rfl ?_);generalize hr52:A2_ x tick 1 ((gt gone1 0).queue)=r3;intro w51;have e53:=e47.trans (F1_ hr52.symm);have hr52:=hr52.symm
      (try have hA53:=H8_ (s:=x) (t:=tick) (k:=1) (x:=((gt gone1 0).queue)) (by first|assumption|exact Bt_ (by assumption));(try rw[<- hr52] at hA53);obtain⟨hA53_0,hA53_1⟩:=hA53)
      refine vT 7 rfl (sA tv98 ?_);refine vD ?_;refine gy tv98 14 ?_;refine ef (ecut1 tv98 rfl rfl rfl rfl rfl rfl rfl rfl (by omega) (by first|omega|(simp only[List.length_append];omega)) rfl fun u55=>?_);refine gx tv98 2 ?_;refine next ⟨f1,(gone1.drop 1),(lost+1),r3,(u55)⟩ rfl rfl ⟨rfl,rfl,trivial⟩ ⟨rfl,rfl,trivial⟩ ?_ ?_
      · (try simp only[]);omega
      exact⟨(by first|exact Qt_ (by omega) (by omega)|exact Ug_ (by assumption) (by omega) (by omega)|exact Qu_ (m:=_) (by omega) (by omega) (by first|assumption|exact Eq.symm (by assumption)) (by assumption) (by assumption) (by assumption) rfl (by assumption)),e53,(by first|exact O9_ (by assumption) (by omega)|exact Pa_ (by assumption) (by assumption) (by assumption) (by omega)|exact Pb_ (m:=_) (by assumption) (by assumption) (by assumption) (by omega) (by first|assumption|exact Eq.symm (by assumption)) (by assumption) (by assumption) (by assumption) rfl (by assumption))⟩
    have h56:=orl h46;have p57:=df h56;have h58:=orr h46;have h59:=Cf_ h58;have p60:=dt h59;refine gx tv98 2 ?_;refine sw_osl (t:=13) 5 rfl rfl ?_;refine aN [0,1,7,8,9,10,11,12] 6 mixd ?_;refine gX tv98 [0,1,2] 3 ?_;refine vE 3 rfl (app tv98 r2.2.1 rfl rfl rfl rfl rfl rfl rfl rfl rfl (src_o rfl rfl) (by have :=app_fit (by assumption) (by assumption) (by assumption);(try dsimp only);omega) rfl fun u62=>?_);refine vtp 4 rfl (by kernel_rfl) (by kernel_rfl) (sA tv98 ?_);refine gX tv98 [5] 0 ?_;refine vD ?_;refine gx tv98 4 ?_;refine ef (ecut1 tv98 rfl rfl rfl rfl rfl rfl rfl rfl (by omega) (by first|omega|(simp only[List.length_append];omega)) rfl fun u63=>?_);refine gx tv98 2 ?_;refine next ⟨f1,((gone1++r2.2.1).drop 1),lost,r2.1,(u63)⟩ rfl rfl ⟨rfl,rfl,trivial⟩ ⟨rfl,rfl,trivial⟩ ?_ ?_
    · (try simp only[]);omega
    exact⟨(by first|exact Qt_ (by omega) (by omega)|exact Ug_ (by assumption) (by omega) (by omega)|exact Qu_ (m:=_) (by omega) (by omega) (by first|assumption|exact Eq.symm (by assumption)) (by assumption) (by assumption) (by assumption) rfl (by assumption)),e61,(by first|exact O9_ (by assumption) (by omega)|exact Pa_ (by assumption) (by assumption) (by assumption) (by omega)|exact Pb_ (m:=_) (by assumption) (by assumption) (by assumption) (by omega) (by first|assumption|exact Eq.symm (by assumption)) (by assumption) (by assumption) (by assumption) rfl (by assumption))⟩
  refine gm tv98 14 [] fun _=>?_;exact rt2 rfl rfl (Aa_ (fun r:B_×Int=> .tup [.agg (B_.pc r.1), .int .i64 r.2]) e65 (ple rfl))
theorem Jl_ (s:B_) (d:DeedR) (hs:StOk s:=by assumption):Fn Tryz.prog gb 53 [.agg (B_.pc s), .agg (DeedR.pc d)] (.tup [.agg (B_.pc ((A5_ s d).1)), .agg (X_.pc ((A5_ s d).2.1)), .int .i64 ((A5_ s d).2.2)]):=by
  refine fC Tryz.func53 tv98 Tryz.ntmps53 fun w N H hG=>?_;have s_x_book_shops_l:s.x.book.shops.length<=140737488355328:=w.1.1.1;have s_x_book_binds_l:s.x.book.binds.length<=140737488355328:=w.1.2.1.1;have s_x_stock_rows_l:s.x.stock.rows.length<=140737488355328:=w.1.2.2.2.2.1.1;have s_x_notes_kept_l:s.x.notes.kept.length<=140737488355328:=w.1.2.2.2.2.2.2.2.2.2.2.2.2.2.2.2.2.2.2.2.2.2.2.2.2.2.2.2.2.2.2.2.2.2.2.2.2.2.2.1.1;have s_policy_places_l:s.policy.places.length<=140737488355328:=w.1.2.2.2.2.2.2.2.2.2.2.2.2.2.2.2.2.2.2.2.2.2.2.2.2.2.2.2.2.2.2.2.2.2.2.2.2.2.2.2.2.2.2.2.2.2.2.2.2.2.2.2.2.2.2.2.2.2.2.2.2.2.2.2.2.2.2.2.2.2.2.2.2.2.1.1;have s_policy_slots_l:s.policy.slots.length<=140737488355328:=w.1.2.2.2.2.2.2.2.2.2.2.2.2.2.2.2.2.2.2.2.2.2.2.2.2.2.2.2.2.2.2.2.2.2.2.2.2.2.2.2.2.2.2.2.2.2.2.2.2.2.2.2.2.2.2.2.2.2.2.2.2.2.2.2.2.2.2.2.2.2.2.2.2.2.2.1.1;have s_policy_grants_l:s.policy.grants.length<=140737488355328:=w.1.2.2.2.2.2.2.2.2.2.2.2.2.2.2.2.2.2.2.2.2.2.2.2.2.2.2.2.2.2.2.2.2.2.2.2.2.2.2.2.2.2.2.2.2.2.2.2.2.2.2.2.2.2.2.2.2.2.2.2.2.2.2.2.2.2.2.2.2.2.2.2.2.2.2.2.1.1;have d_bind_want_l:d.bind.want.length<=140737488355328:=w.2.1.2.2.2.2.2.2.2.2.2.2.2.2.2.1.1;have d_mail_head_l:d.mail.head.length<=140737488355328:=w.2.1.2.2.2.2.2.2.2.2.2.2.2.2.2.2.2.2.2.2.2.2.2.2.2.2.1.1;have hs0:=hs;obtain⟨⟨⟨hb1,hb2,hb3⟩,hk0,hn,hu⟩,hp0,hq1,hq2⟩:=hs0;have hpp:=hp0;obtain⟨hp1,hp2,hp3,hp4,hp5,hp6,hp7⟩:=hpp;have hk1:=hk0;obtain⟨⟨hr1,hr2,hr3⟩,hr4,hr5,hr6⟩:=hk1;have e0:=A5_.eq_1 s d;generalize A5_ s d=z at e0 ⊢;refine gm tv98 18 [0,1,2,3] fun B2=>?_;refine cV e0 R11_ (Kh_ _ _ _) rfl fun r hr6 e8 w7=>?_;have hA8:=Uu_ (s:=s.x.stock) (n:=d.name) (id:=d.id) (by first|assumption|exact StOk.stk (by assumption))
  (try rw[<- hr6] at hA8)
  refine gm tv98 15 [4] fun B11=>?_;refine cN e8 (fun p14 e15=>?_) (fun p18 e19=>?_)
  · refine gm tv98 12 [] fun _=>?_;subst e15;exact qr3
  refine gx tv98 10 ?_;refine cD e19 (fun p21 e22=>?_) (fun p24 e25=>?_)
  · refine gm tv98 19 [] fun _=>?_;subst e22;exact qr3
  refine gx tv98 11 ?_;refine cV e25 R19_ (Gp_ _ _ _) rfl fun r1 hr26 e28 w27=>?_
  (try have hA28:=Jr_ (s:=s.x.stock) (n:=d.name) (id:=d.id) (by first|assumption|exact StOk.stk (by assumption));(try rw[<- hr26] at hA28);obtain⟨hA28_0,hA28_1⟩:=hA28)
  refine gm tv98 32 [5,6,7] fun B31=>?_;refine cD e28 (fun p35 e36=>?_) (fun p40 e41=>?_)
  · refine gx tv98 7 ?_;refine ef (bsl 8 OutR.pc [(⟨d.name,r1.2.1.mail⟩:OutR)] tv98 rfl rfl rfl rfl rfl (fun _=>rfl) rfl (by decide) (by decide) rfl fun u37=>?_);refine gx tv98 2 ?_;refine ef (Um_ (Ek_ (⟨(⟨s.x.book,r1.1,s.x.notes,s.x.seen,s.x.spent⟩:A0_),s.policy,s.place⟩:B_) _ _ (hs:=by exact Bk_ (by assumption) (by assumption)) (hg:=by exact⟨by simp,fun g hg=>by rw[List.mem_singleton.1 hg];assumption⟩)) rfl rfl rfl rfl rfl rfl rfl fun w38=>?_);refine gm tv98 9 [] fun _=>?_;refine aN [2,3,8,9,10,11,12,13] 5 mixd ?_;refine gX tv98 [0,1] 3 ?_;refine vE 2 rfl (sA tv98 ?_);refine vT 3 rfl (sA tv98 ?_);refine gX tv98 [4] 0 ?_;refine vD ?_;refine gx tv98 2 ?_;subst e36;exact qr3
  refine gx tv98 3 ?_;refine aN [2,3,8,9,10,11,12,13] 5 mixd ?_;refine gX tv98 [0,1] 3 ?_;refine vE 2 rfl (sA tv98 ?_);refine vT 3 rfl (sA tv98 ?_);refine gX tv98 [4] 0 ?_;refine vD ?_;refine gx tv98 2 ?_;subst e41;exact qr3
theorem Kn_ (s:B_) (tick:Int) (hs:StOk s:=by assumption):Fn Tryz.prog gb 54 [.agg (B_.pc s), .int .u64 tick] (.tup [.agg (B_.pc ((Db_ s tick).1)), .agg (X_.pc ((Db_ s tick).2))]):=by
  refine fC Tryz.func54 tv98 Tryz.ntmps54 fun w N H hG=>?_;have s_x_book_shops_l:s.x.book.shops.length<=140737488355328:=w.1.1.1;have s_x_book_binds_l:s.x.book.binds.length<=140737488355328:=w.1.2.1.1;have s_x_stock_rows_l:s.x.stock.rows.length<=140737488355328:=w.1.2.2.2.2.1.1;have s_x_notes_kept_l:s.x.notes.kept.length<=140737488355328:=w.1.2.2.2.2.2.2.2.2.2.2.2.2.2.2.2.2.2.2.2.2.2.2.2.2.2.2.2.2.2.2.2.2.2.2.2.2.2.2.1.1;have s_policy_places_l:s.policy.places.length<=140737488355328:=w.1.2.2.2.2.2.2.2.2.2.2.2.2.2.2.2.2.2.2.2.2.2.2.2.2.2.2.2.2.2.2.2.2.2.2.2.2.2.2.2.2.2.2.2.2.2.2.2.2.2.2.2.2.2.2.2.2.2.2.2.2.2.2.2.2.2.2.2.2.2.2.2.2.2.1.1;have s_policy_slots_l:s.policy.slots.length<=140737488355328:=w.1.2.2.2.2.2.2.2.2.2.2.2.2.2.2.2.2.2.2.2.2.2.2.2.2.2.2.2.2.2.2.2.2.2.2.2.2.2.2.2.2.2.2.2.2.2.2.2.2.2.2.2.2.2.2.2.2.2.2.2.2.2.2.2.2.2.2.2.2.2.2.2.2.2.2.1.1;have s_policy_grants_l:s.policy.grants.length<=140737488355328:=w.1.2.2.2.2.2.2.2.2.2.2.2.2.2.2.2.2.2.2.2.2.2.2.2.2.2.2.2.2.2.2.2.2.2.2.2.2.2.2.2.2.2.2.2.2.2.2.2.2.2.2.2.2.2.2.2.2.2.2.2.2.2.2.2.2.2.2.2.2.2.2.2.2.2.2.2.1.1;have tick_r:0<=tick/\tick<=18446744073709551615:=w.2.1;have hs0:=hs;obtain⟨⟨⟨hb1,hb2,hb3⟩,hk0,hn,hu⟩,hp0,hq1,hq2⟩:=hs0;have hpp:=hp0;obtain⟨hp1,hp2,hp3,hp4,hp5,hp6,hp7⟩:=hpp;have hk1:=hk0;obtain⟨⟨hr1,hr2,hr3⟩,hr4,hr5,hr6⟩:=hk1;have e0:=Db_.eq_1 s tick;refine gm tv98 14 [0,1,2] fun B2=>?_;refine sw_own (t:=6) (k:=8) (e:=230) 3 OutR.pc rfl rfl ?_;refine loop (ι:=Nat×(List OutR)×B_×Value) [1,2,4,5] [1,2] (fun ⟨f,gone,x,u_gone⟩=>[(6, .osl 3)]) (fun ⟨f,gone,x,u_gone⟩=>[(3, .arr u_gone 8 230 OutR.pc gone),(0, .box (B2 0) 54 (B_.pc x))]) (fun ⟨f,gone,x,u_gone⟩=>nik x.x.stock<f/\Db_ s tick=Az_ tick f gone x/\StOk x/\(∀ g∈gone,MlOk g.mail)/\gone.length+nik x.x.stock<=512) (fun ⟨f,gone,x,u_gone⟩=>f) ⟨(nik s.x.stock+1),[],s,(.slice none 0 0)⟩ ⟨rfl,trivial⟩ ⟨rfl,rfl,trivial⟩ ?_ ?_
  · exact⟨Nat.lt_succ_self _,e0,⟨by assumption,(fun _ h=>by cases h),by have :=nik_r hk0;simpa using this⟩⟩
  rintro⟨f,gone,x,u_gone⟩ ⟨hp5_1,hp5_2,hp5_3⟩;obtain⟨hi1,hi2,hi3⟩:=hp5_3;obtain⟨f1,rfl⟩:∃ q,f=q+1:=⟨f-1,by omega⟩;have e_f1:=hp5_2.trans (Az_.eq_2 _ _ _ _);refine gx tv98 7 ?_;refine cV e_f1 R20_ (Kj_ _ _) rfl fun r hr6 e8 w7=>?_;have hA8:=Uv_ (s:=x.x.stock) (t:=tick) (by first|assumption|exact StOk.stk (by assumption))
  (try rw[<- hr6] at hA8)
  refine gm tv98 17 [4] fun B11=>?_;refine cE e8 (fun h12 e14=>?_) (fun h12 e20=>?_)
  · have h13:=Cg_ h12;refine gm tv98 20 [5] fun B16=>?_;refine ef (Um_ (Ek_ _ _ _ (hg:=by exact⟨by omega,by assumption⟩)) rfl rfl rfl rfl rfl rfl rfl fun w17=>?_);refine gm tv98 9 [] fun _=>?_;refine aN [1,2,3,6,7,8,9,10] 4 mixd ?_;refine gX tv98 [0,1] 2 ?_;refine vE 2 rfl (sA tv98 ?_);refine vT 3 rfl (sA tv98 ?_);refine vD ?_;refine gx tv98 2 ?_;exact rt2 rfl rfl (Aa_ (fun r:B_×X_=> .tup [.agg (B_.pc r.1), .agg (X_.pc r.2)]) e14 (ple rfl))
  have h19:=Cf_ h12;refine gx tv98 10 ?_;refine cV e20 R19_ (Gp_ _ _ _) rfl fun r1 hr21 e23 w22=>?_
  (try have hA23:=Jr_ (s:=x.x.stock) (n:=r.1) (id:=r.2.1.id) (by first|assumption|exact StOk.stk (by assumption));(try rw[<- hr21] at hA23);obtain⟨hA23_0,hA23_1⟩:=hA23)
  refine gm tv98 14 [] fun _=>?_;refine ef (bsl 5 OutR.pc [(⟨r.1,r.2.1⟩:OutR)] tv98 rfl rfl rfl rfl rfl (fun _=>rfl) rfl (by decide) (by decide) rfl fun u26=>?_);refine ef (app tv98 [(⟨r.1,r.2.1⟩:OutR)] rfl rfl rfl rfl rfl rfl rfl rfl rfl (src_o rfl rfl) (by first|omega|(simp;omega)) rfl fun u27=>?_);refine gx tv98 3 ?_;refine next ⟨f1,(gone++[(⟨r.1,r.2.1⟩:OutR)]),(⟨(⟨x.x.book,r1.1,x.x.notes,x.x.seen,x.x.spent⟩:A0_),x.policy,x.place⟩:B_),(u27)⟩ rfl rfl ⟨rfl,trivial⟩ ⟨rfl,rfl,trivial⟩ ?_ ?_
  · (try simp only[]);omega
  exact⟨(Yy_ (StOk.stk (by assumption)) (by first|assumption|exact Eq.symm (by assumption)) (by assumption) (by first|assumption|exact Eq.symm (by assumption)) (by assumption)),e23,⟨Bk_ (by assumption) (by assumption),(fun g hg=>by rcases List.mem_append.1 hg with q|q;exact hi2 g q;rw[List.mem_singleton.1 q];assumption),Yx_ (StOk.stk (by assumption)) (by first|assumption|exact Eq.symm (by assumption)) (by assumption) (by first|assumption|exact Eq.symm (by assumption)) (by assumption)⟩⟩
theorem Kp_ (s:B_) (d:DeedR) (hs:StOk s:=by assumption) (hd:DdOk d:=by assumption):Fn Tryz.prog gb 55 [.agg (B_.pc s), .agg (DeedR.pc d)] (.tup [.agg (B_.pc ((Cu_ s d).1)), .agg (X_.pc ((Cu_ s d).2.1)), .int .i64 ((Cu_ s d).2.2)]):=by
  refine fC Tryz.func55 tv98 Tryz.ntmps55 fun w N H hG=>?_;have s_x_book_shops_l:s.x.book.shops.length<=140737488355328:=w.1.1.1;have s_x_book_binds_l:s.x.book.binds.length<=140737488355328:=w.1.2.1.1;have s_x_stock_next_r:0<=s.x.stock.next /\ s.x.stock.next <= 18446744073709551615:=w.1.2.2.1;have s_x_stock_bytes_r:-9223372036854775808<=s.x.stock.bytes/\s.x.stock.bytes<=9223372036854775807:=w.1.2.2.2.1;have s_x_stock_rows_l:s.x.stock.rows.length<=140737488355328:=w.1.2.2.2.2.1.1;have s_x_notes_total_r:0<=s.x.notes.total/\s.x.notes.total<=18446744073709551615:=w.1.2.2.2.2.2.2.2.2.2.2.2.2.2.2.2.2.2.2.2.2.2.2.2.2.2.2.2.2.2.2.2.2.2.2.2.2.2.1;have s_x_notes_kept_l:s.x.notes.kept.length<=140737488355328:=w.1.2.2.2.2.2.2.2.2.2.2.2.2.2.2.2.2.2.2.2.2.2.2.2.2.2.2.2.2.2.2.2.2.2.2.2.2.2.2.1.1;have s_x_seen_e0_r:0<=s.x.seen.e0/\s.x.seen.e0<=18446744073709551615:=w.1.2.2.2.2.2.2.2.2.2.2.2.2.2.2.2.2.2.2.2.2.2.2.2.2.2.2.2.2.2.2.2.2.2.2.2.2.2.2.2.1;have s_x_seen_e1_r:0<=s.x.seen.e1/\s.x.seen.e1<=18446744073709551615:=w.1.2.2.2.2.2.2.2.2.2.2.2.2.2.2.2.2.2.2.2.2.2.2.2.2.2.2.2.2.2.2.2.2.2.2.2.2.2.2.2.2.1;have s_x_seen_e2_r:0<=s.x.seen.e2/\s.x.seen.e2<=18446744073709551615:=w.1.2.2.2.2.2.2.2.2.2.2.2.2.2.2.2.2.2.2.2.2.2.2.2.2.2.2.2.2.2.2.2.2.2.2.2.2.2.2.2.2.2.1;have s_x_seen_e3_r:0<=s.x.seen.e3/\s.x.seen.e3<=18446744073709551615:=w.1.2.2.2.2.2.2.2.2.2.2.2.2.2.2.2.2.2.2.2.2.2.2.2.2.2.2.2.2.2.2.2.2.2.2.2.2.2.2.2.2.2.2.1;have s_x_seen_e4_r:0<=s.x.seen.e4/\s.x.seen.e4<=18446744073709551615:=w.1.2.2.2.2.2.2.2.2.2.2.2.2.2.2.2.2.2.2.2.2.2.2.2.2.2.2.2.2.2.2.2.2.2.2.2.2.2.2.2.2.2.2.2.1;have s_x_seen_e5_r:0<=s.x.seen.e5/\s.x.seen.e5<=18446744073709551615:=w.1.2.2.2.2.2.2.2.2.2.2.2.2.2.2.2.2.2.2.2.2.2.2.2.2.2.2.2.2.2.2.2.2.2.2.2.2.2.2.2.2.2.2.2.2.1;have s_x_seen_e6_r:0<=s.x.seen.e6/\s.x.seen.e6<=18446744073709551615:=w.1.2.2.2.2.2.2.2.2.2.2.2.2.2.2.2.2.2.2.2.2.2.2.2.2.2.2.2.2.2.2.2.2.2.2.2.2.2.2.2.2.2.2.2.2.2.1;have s_x_seen_e7_r:0<=s.x.seen.e7/\s.x.seen.e7<=18446744073709551615:=w.1.2.2.2.2.2.2.2.2.2.2.2.2.2.2.2.2.2.2.2.2.2.2.2.2.2.2.2.2.2.2.2.2.2.2.2.2.2.2.2.2.2.2.2.2.2.2.1;have s_x_seen_e8_r:0<=s.x.seen.e8/\s.x.seen.e8<=18446744073709551615:=w.1.2.2.2.2.2.2.2.2.2.2.2.2.2.2.2.2.2.2.2.2.2.2.2.2.2.2.2.2.2.2.2.2.2.2.2.2.2.2.2.2.2.2.2.2.2.2.2.1;have s_x_seen_e9_r:0<=s.x.seen.e9/\s.x.seen.e9<=18446744073709551615:=w.1.2.2.2.2.2.2.2.2.2.2.2.2.2.2.2.2.2.2.2.2.2.2.2.2.2.2.2.2.2.2.2.2.2.2.2.2.2.2.2.2.2.2.2.2.2.2.2.2.1;have s_x_seen_e10_r:0<=s.x.seen.e10/\s.x.seen.e10<=18446744073709551615:=w.1.2.2.2.2.2.2.2.2.2.2.2.2.2.2.2.2.2.2.2.2.2.2.2.2.2.2.2.2.2.2.2.2.2.2.2.2.2.2.2.2.2.2.2.2.2.2.2.2.2.1;have s_x_seen_e11_r:0<=s.x.seen.e11/\s.x.seen.e11<=18446744073709551615:=w.1.2.2.2.2.2.2.2.2.2.2.2.2.2.2.2.2.2.2.2.2.2.2.2.2.2.2.2.2.2.2.2.2.2.2.2.2.2.2.2.2.2.2.2.2.2.2.2.2.2.2.1;have s_x_seen_e12_r:0<=s.x.seen.e12/\s.x.seen.e12<=18446744073709551615:=w.1.2.2.2.2.2.2.2.2.2.2.2.2.2.2.2.2.2.2.2.2.2.2.2.2.2.2.2.2.2.2.2.2.2.2.2.2.2.2.2.2.2.2.2.2.2.2.2.2.2.2.2.1;have s_x_seen_e13_r:0<=s.x.seen.e13/\s.x.seen.e13<=18446744073709551615:=w.1.2.2.2.2.2.2.2.2.2.2.2.2.2.2.2.2.2.2.2.2.2.2.2.2.2.2.2.2.2.2.2.2.2.2.2.2.2.2.2.2.2.2.2.2.2.2.2.2.2.2.2.2.1;have s_x_seen_e14_r:0<=s.x.seen.e14/\s.x.seen.e14<=18446744073709551615:=w.1.2.2.2.2.2.2.2.2.2.2.2.2.2.2.2.2.2.2.2.2.2.2.2.2.2.2.2.2.2.2.2.2.2.2.2.2.2.2.2.2.2.2.2.2.2.2.2.2.2.2.2.2.2.1;have s_x_seen_e15_r:0<=s.x.seen.e15/\s.x.seen.e15<=18446744073709551615:=w.1.2.2.2.2.2.2.2.2.2.2.2.2.2.2.2.2.2.2.2.2.2.2.2.2.2.2.2.2.2.2.2.2.2.2.2.2.2.2.2.2.2.2.2.2.2.2.2.2.2.2.2.2.2.2.1;have s_policy_work_r:-9223372036854775808<=s.policy.work/\s.policy.work<=9223372036854775807:=w.1.2.2.2.2.2.2.2.2.2.2.2.2.2.2.2.2.2.2.2.2.2.2.2.2.2.2.2.2.2.2.2.2.2.2.2.2.2.2.2.2.2.2.2.2.2.2.2.2.2.2.2.2.2.2.2.2.2.2.2.2.2.2.2.2.2.2.2.2.2.2.2.1;have s_policy_give_r:-9223372036854775808<=s.policy.give/\s.policy.give<=9223372036854775807:=w.1.2.2.2.2.2.2.2.2.2.2.2.2.2.2.2.2.2.2.2.2.2.2.2.2.2.2.2.2.2.2.2.2.2.2.2.2.2.2.2.2.2.2.2.2.2.2.2.2.2.2.2.2.2.2.2.2.2.2.2.2.2.2.2.2.2.2.2.2.2.2.2.2.1;have s_policy_places_l:s.policy.places.length<=140737488355328:=w.1.2.2.2.2.2.2.2.2.2.2.2.2.2.2.2.2.2.2.2.2.2.2.2.2.2.2.2.2.2.2.2.2.2.2.2.2.2.2.2.2.2.2.2.2.2.2.2.2.2.2.2.2.2.2.2.2.2.2.2.2.2.2.2.2.2.2.2.2.2.2.2.2.2.1.1;have s_policy_slots_l:s.policy.slots.length<=140737488355328:=w.1.2.2.2.2.2.2.2.2.2.2.2.2.2.2.2.2.2.2.2.2.2.2.2.2.2.2.2.2.2.2.2.2.2.2.2.2.2.2.2.2.2.2.2.2.2.2.2.2.2.2.2.2.2.2.2.2.2.2.2.2.2.2.2.2.2.2.2.2.2.2.2.2.2.2.1.1;have s_policy_grants_l:s.policy.grants.length<=140737488355328:=w.1.2.2.2.2.2.2.2.2.2.2.2.2.2.2.2.2.2.2.2.2.2.2.2.2.2.2.2.2.2.2.2.2.2.2.2.2.2.2.2.2.2.2.2.2.2.2.2.2.2.2.2.2.2.2.2.2.2.2.2.2.2.2.2.2.2.2.2.2.2.2.2.2.2.2.2.1.1;have s_place_r:-9223372036854775808<=s.place/\s.place<=9223372036854775807:=w.1.2.2.2.2.2.2.2.2.2.2.2.2.2.2.2.2.2.2.2.2.2.2.2.2.2.2.2.2.2.2.2.2.2.2.2.2.2.2.2.2.2.2.2.2.2.2.2.2.2.2.2.2.2.2.2.2.2.2.2.2.2.2.2.2.2.2.2.2.2.2.2.2.2.2.2.2.1;have d_kind_r:0<=d.kind/\d.kind<=255:=w.2.1.1;have d_tick_r:0<=d.tick/\d.tick<=18446744073709551615:=w.2.1.2.1;have d_shop_name_l:d.shop.name.length<=9223372036854775807:=w.2.1.2.2.1;have d_shop_sort_r:0<=d.shop.sort/\d.shop.sort<=255:=w.2.1.2.2.2.1;have d_shop_to_l:d.shop.to'.length<=9223372036854775807:=w.2.1.2.2.2.2.1;have d_queue_name_l:d.queue.name.length<=9223372036854775807:=w.2.1.2.2.2.2.2.1;have d_queue_most_r:0<=d.queue.most/\d.queue.most<=18446744073709551615:=w.2.1.2.2.2.2.2.2.1;have d_queue_life_r:0<=d.queue.life/\d.queue.life<=18446744073709551615:=w.2.1.2.2.2.2.2.2.2.1;have d_queue_dead_l:d.queue.dead.length<=9223372036854775807:=w.2.1.2.2.2.2.2.2.2.2.1;have d_bind_shop_l:d.bind.shop.length<=9223372036854775807:=w.2.1.2.2.2.2.2.2.2.2.2.1;have d_bind_to_l:d.bind.to'.length<=9223372036854775807:=w.2.1.2.2.2.2.2.2.2.2.2.2.1;have d_bind_key_l:d.bind.key.length<=9223372036854775807:=w.2.1.2.2.2.2.2.2.2.2.2.2.2.2.1;have d_bind_want_l:d.bind.want.length<=140737488355328:=w.2.1.2.2.2.2.2.2.2.2.2.2.2.2.2.1.1;have d_name_l:d.name.length<=9223372036854775807:=w.2.1.2.2.2.2.2.2.2.2.2.2.2.2.2.2.2.1;have d_id_r:0<=d.id/\d.id<=18446744073709551615:=w.2.1.2.2.2.2.2.2.2.2.2.2.2.2.2.2.2.2.1;have d_how_r:0<=d.how/\d.how<=255:=w.2.1.2.2.2.2.2.2.2.2.2.2.2.2.2.2.2.2.2.1;have d_frm_r:0<=d.frm/\d.frm<=255:=w.2.1.2.2.2.2.2.2.2.2.2.2.2.2.2.2.2.2.2.2.1;have d_code_r:0<=d.code/\d.code<=255:=w.2.1.2.2.2.2.2.2.2.2.2.2.2.2.2.2.2.2.2.2.2.1;have d_number_r:0<=d.number/\d.number<=18446744073709551615:=w.2.1.2.2.2.2.2.2.2.2.2.2.2.2.2.2.2.2.2.2.2.2.1;have d_mail_id_r:0<=d.mail.id/\d.mail.id<=18446744073709551615:=w.2.1.2.2.2.2.2.2.2.2.2.2.2.2.2.2.2.2.2.2.2.2.2.1;have d_mail_shop_l:d.mail.shop.length<=9223372036854775807:=w.2.1.2.2.2.2.2.2.2.2.2.2.2.2.2.2.2.2.2.2.2.2.2.2.1;have d_mail_key_l:d.mail.key.length<=9223372036854775807:=w.2.1.2.2.2.2.2.2.2.2.2.2.2.2.2.2.2.2.2.2.2.2.2.2.2.1;have d_mail_head_l:d.mail.head.length<=140737488355328:=w.2.1.2.2.2.2.2.2.2.2.2.2.2.2.2.2.2.2.2.2.2.2.2.2.2.2.1.1;have d_mail_body_l:d.mail.body.length<=9223372036854775807:=w.2.1.2.2.2.2.2.2.2.2.2.2.2.2.2.2.2.2.2.2.2.2.2.2.2.2.2.1;have d_mail_due_r:0<=d.mail.due/\d.mail.due<=18446744073709551615:=w.2.1.2.2.2.2.2.2.2.2.2.2.2.2.2.2.2.2.2.2.2.2.2.2.2.2.2.2.1;have d_mail_hops_r:0<=d.mail.hops/\d.mail.hops<=255:=w.2.1.2.2.2.2.2.2.2.2.2.2.2.2.2.2.2.2.2.2.2.2.2.2.2.2.2.2.2.1;have d_text_l:d.text.length<=9223372036854775807:=w.2.1.2.2.2.2.2.2.2.2.2.2.2.2.2.2.2.2.2.2.2.2.2.2.2.2.2.2.2.2.1;have hs0:=hs;obtain⟨⟨⟨hb1,hb2,hb3⟩,hk0,hn,hu⟩,hp0,hq1,hq2⟩:=hs0;have hpp:=hp0;obtain⟨hp1,hp2,hp3,hp4,hp5,hp6,hp7⟩:=hpp;have hk1:=hk0;obtain⟨⟨hr1,hr2,hr3⟩,hr4,hr5,hr6⟩:=hk1;have hd0:=hd;obtain⟨hd1,hd2,hd3,hd4⟩:=hd0;have e0:=Cu_.eq_1 s d;generalize Cu_ s d=z at e0 ⊢;refine gm tv98 30 [0,1,2,3] fun B2=>?_;refine cD e0 (fun p7 e8=>?_) (fun p10 e11=>?_)
  · refine gm tv98 12 [] fun _=>?_;subst e8;exact qr3
  refine gx tv98 7 ?_;refine call (Et_ _ _ _) rfl rfl fun w12=>?_;refine gy tv98 7 ?_;refine callg rfl (fun hc=>(Eu_ _ _ _)) rfl ⟨(fun hc=>hc),(fun hc=>hc),(fun hc=>hc),trivial⟩ rfl rfl fun _=>?_;refine gy tv98 5 ?_;refine cE e11 (fun h13 e18=>?_) (fun h13 e20=>?_)
  · have h14:=bl h13;have h15:=Cg_ h14;have h16:=br h13;have p17:=dt h16;refine gm tv98 12 [] fun _=>?_;subst e18;exact qr3
  refine gx tv98 1 ?_;refine aN [4,5,6,7,8,9] 9 mixd ?_;refine gX tv98 [0,1,2,3,4] 4 ?_;refine vq 5 (qaia (d.frm).toNat rfl rfl Tryz.underlying47 sz36 (by omega) (by omega)) rfl (by kernel_rfl) rfl fun w21=>?_;refine vE 6 rfl (oloadS1 (len:=16) (fun q=> .int .u64 (A16.get s.x.seen q)) ((d.frm).toNat) 39 1 0 tv98 rfl rfl rfl rfl rfl rfl (by omega) (bw16 rfl rfl rfl rfl rfl rfl rfl rfl rfl rfl rfl rfl rfl rfl rfl rfl) rfl fun w22=>?_);refine gX tv98 [7,8] 0 ?_;refine vD ?_;refine gx tv98 1 ?_;refine cD e20 (fun p24 e25=>?_) (fun p27 e28=>?_)
  · refine gm tv98 12 [] fun _=>?_;subst e25;exact qr3
  refine gx tv98 10 ?_;refine q1 (qaia (d.frm).toNat rfl rfl Tryz.underlying47 sz36 (by omega) (by omega)) rfl fun w29=>?_;refine ef (ostoreS1 (len:=16) (fun q=>B_.pc (⟨(⟨s.x.book,s.x.stock,s.x.notes,(A16.set s.x.seen d.number q),s.x.spent⟩:A0_),s.policy,s.place⟩:B_)) ((d.frm).toNat) 39 1 0 tv98 rfl rfl rfl rfl rfl rfl rfl (by omega) (bw16 rfl rfl rfl rfl rfl rfl rfl rfl rfl rfl rfl rfl rfl rfl rfl rfl) rfl (bw16 rfl rfl rfl rfl rfl rfl rfl rfl rfl rfl rfl rfl rfl rfl rfl rfl) rfl ?_);refine gx tv98 3 ?_;obtain⟨o,e_o,q_o⟩:=Gg_ e28;refine H7_ (ι:=B_) [2,3,4,5,6] [1,2,3] (fun x=>[]) (fun x=>[(0, .box (B2 0) 54 (B_.pc x))]) (fun x=>o=x/\StOk x) ?_ ?_
  · refine gx tv98 7 ?_;refine call (Et_ _ _ _) rfl rfl fun w30=>?_;refine gx tv98 3 ?_;refine cE e_o (fun h31 e33=>?_) (fun h31 e41=>?_)
    · have h32:=Cg_ h31;refine aN [4,5,6,7,8,9] 12 mixd ?_;refine gX tv98 [0,1,2,3,4,5,6] 5 ?_;have hc34:=getG (xs:=s.policy.places) (k:=(d.frm).toNat) (by omega);refine vq 7 (qidx tv98 (d.frm).toNat rfl rfl (by omega) hc34 rfl rfl rfl rfl) rfl (by kernel_rfl) rfl fun w35=>?_;refine gX tv98 [8,9] 2 ?_;refine vE 10 rfl (eC (D0_ (⟨(⟨s.x.book,s.x.stock,s.x.notes,(A16.set s.x.seen d.number ((d.frm).toNat)),s.x.spent⟩:A0_),s.policy,s.place⟩:B_) _ _ _ (hn:=by exact st_nts (by first|assumption|exact Bt_ (by assumption)))) rfl ?_);generalize hr37:A2_ (⟨(⟨s.x.book,s.x.stock,s.x.notes,(A16.set s.x.seen d.number ((d.frm).toNat)),s.x.spent⟩:A0_),s.policy,s.place⟩:B_) d.tick 2 ((gt s.policy.places ((d.frm).toNat)).name)=r;intro w36;have e38:=e33.trans (F1_ hr37.symm);have hr37:=hr37.symm
      (try have hA38:=H8_ (s:=(⟨(⟨s.x.book,s.x.stock,s.x.notes,(A16.set s.x.seen d.number ((d.frm).toNat)),s.x.spent⟩:A0_),s.policy,s.place⟩:B_)) (t:=d.tick) (k:=2) (x:=((gt s.policy.places ((d.frm).toNat)).name)) (by first|assumption|exact Bt_ (by assumption));(try rw[<- hr37] at hA38);obtain⟨hA38_0,hA38_1⟩:=hA38)
      refine vT 11 rfl (sA tv98 ?_);refine vD ?_;refine nX r ?_ trivial ⟨rfl,trivial⟩;exact⟨e38,by first|assumption|exact Bt_ (by assumption)⟩
    have h40:=Cf_ h31;refine gx tv98 1 ?_;refine nX (⟨(⟨s.x.book,s.x.stock,s.x.notes,(A16.set s.x.seen d.number ((d.frm).toNat)),s.x.spent⟩:A0_),s.policy,s.place⟩:B_) ?_ trivial ⟨rfl,trivial⟩;exact⟨e41,by first|assumption|exact Bt_ (by assumption)⟩
  rintro x ⟨hp42,hp42_3⟩;have e43:=Jc_ q_o hp42;refine gx tv98 5 ?_;refine cV e43 R1_ (Ef_ _) rfl fun r1 hr44 e46 w45=>?_;have hA46:=Qx_ d.mail
  (try rw[<- hr44] at hA46)
  have :=wr_u8 (r1.hops+1);refine gm tv98 19 [4] fun B49=>?_;refine ef (ecallo 5 (D1_ _ (⟨r1.id,r1.shop,r1.key,r1.head,r1.body,r1.due,(IntKind.wrap .u8 (r1.hops+1))⟩:Mail) _ (hs:=by first|assumption|exact Bt_ (by assumption)) (hm:=by dsimp only;exact⟨by omega,by omega⟩)) rfl rfl ?_);generalize hr52:I_ x (⟨r1.id,r1.shop,r1.key,r1.head,r1.body,r1.due,(IntKind.wrap .u8 (r1.hops+1))⟩:Mail) d.tick=r2;intro u51 w50;have e53:=e46.trans (F1_ hr52.symm);have hr52:=hr52.symm
  (try have hA53:=Lw_ (s:=x) (m:=(⟨r1.id,r1.shop,r1.key,r1.head,r1.body,r1.due,(IntKind.wrap .u8 (r1.hops+1))⟩:Mail)) (tick:=d.tick) (by first|assumption|exact Bt_ (by assumption)) (by (try dsimp only);first|omega|exact Od_ _);(try rw[<- hr52] at hA53);obtain⟨hA53_0,hA53_1,hA53_2⟩:=hA53)
  (try have hA54:=Lc_ (s:=x) (m:=(⟨r1.id,r1.shop,r1.key,r1.head,r1.body,r1.due,(IntKind.wrap .u8 (r1.hops+1))⟩:Mail)) (tick:=d.tick) (by first|assumption|exact Bt_ (by assumption));(try rw[<- hr52] at hA54))
  refine gmy tv98 24 [6] fun B57=>?_;refine cE e53 (fun h58 e59=>?_) (fun h58 e70=>?_)
  · refine gx tv98 7 ?_;refine cV e59 R21_ (D0_ _ _ _ _ (hn:=by exact st_nts (by first|assumption|exact Bt_ (by assumption)))) rfl fun r3 hr60 e62 w61=>?_
    (try have hA62:=H8_ (s:=x) (t:=d.tick) (k:=1) (x:=r1.shop) (by first|assumption|exact Bt_ (by assumption));(try rw[<- hr60] at hA62);obtain⟨hA62_0,hA62_1⟩:=hA62)
    refine gm tv98 8 [] fun _=>?_;subst e62;exact qr3
  have h65:=orl h58;have p66:=df h65;have h67:=orr h58;have h68:=Cf_ h67;have p69:=dt h68;refine gm tv98 16 [7] fun B72=>?_;refine so_osl (t:=115) 5 rfl rfl ?_;refine ef (Um_ (Ek_ _ _ _) rfl rfl rfl rfl rfl rfl rfl fun w73=>?_);refine gm tv98 9 [] fun _=>?_;refine aN [2,3,5,8,9,10,11,12] 5 mixd ?_;refine gX tv98 [0,1] 3 ?_;refine vE 2 rfl (sA tv98 ?_);refine vT 3 rfl (sA tv98 ?_);refine gX tv98 [4] 0 ?_;refine vD ?_;refine gx tv98 2 ?_;subst e70;exact qr3
theorem Ld_ (s:B_) (d:DeedR) (hs:StOk s:=by assumption) (hd:DdOk d:=by assumption):Fn Tryz.prog gb 51 [.agg (B_.pc s), .agg (DeedR.pc d)] (.tup [.agg (B_.pc ((B2_ s d).1)), .agg (X_.pc ((B2_ s d).2.1)), .int .i64 ((B2_ s d).2.2)]):=by
  refine fC Tryz.func51 tv98 Tryz.ntmps51 fun w N H hG=>?_;have s_x_book_shops_l:s.x.book.shops.length<=140737488355328:=w.1.1.1;have s_x_book_binds_l:s.x.book.binds.length<=140737488355328:=w.1.2.1.1;have s_x_stock_next_r:0<=s.x.stock.next /\ s.x.stock.next <= 18446744073709551615:=w.1.2.2.1;have s_x_stock_bytes_r:-9223372036854775808<=s.x.stock.bytes/\s.x.stock.bytes<=9223372036854775807:=w.1.2.2.2.1;have s_x_stock_rows_l:s.x.stock.rows.length<=140737488355328:=w.1.2.2.2.2.1.1;have s_x_notes_total_r:0<=s.x.notes.total/\s.x.notes.total<=18446744073709551615:=w.1.2.2.2.2.2.2.2.2.2.2.2.2.2.2.2.2.2.2.2.2.2.2.2.2.2.2.2.2.2.2.2.2.2.2.2.2.2.1;have s_x_notes_kept_l:s.x.notes.kept.length<=140737488355328:=w.1.2.2.2.2.2.2.2.2.2.2.2.2.2.2.2.2.2.2.2.2.2.2.2.2.2.2.2.2.2.2.2.2.2.2.2.2.2.2.1.1;have s_x_seen_e0_r:0<=s.x.seen.e0/\s.x.seen.e0<=18446744073709551615:=w.1.2.2.2.2.2.2.2.2.2.2.2.2.2.2.2.2.2.2.2.2.2.2.2.2.2.2.2.2.2.2.2.2.2.2.2.2.2.2.2.1;have s_x_seen_e1_r:0<=s.x.seen.e1/\s.x.seen.e1<=18446744073709551615:=w.1.2.2.2.2.2.2.2.2.2.2.2.2.2.2.2.2.2.2.2.2.2.2.2.2.2.2.2.2.2.2.2.2.2.2.2.2.2.2.2.2.1;have s_x_seen_e2_r:0<=s.x.seen.e2/\s.x.seen.e2<=18446744073709551615:=w.1.2.2.2.2.2.2.2.2.2.2.2.2.2.2.2.2.2.2.2.2.2.2.2.2.2.2.2.2.2.2.2.2.2.2.2.2.2.2.2.2.2.1;have s_x_seen_e3_r:0<=s.x.seen.e3/\s.x.seen.e3<=18446744073709551615:=w.1.2.2.2.2.2.2.2.2.2.2.2.2.2.2.2.2.2.2.2.2.2.2.2.2.2.2.2.2.2.2.2.2.2.2.2.2.2.2.2.2.2.2.1;have s_x_seen_e4_r:0<=s.x.seen.e4/\s.x.seen.e4<=18446744073709551615:=w.1.2.2.2.2.2.2.2.2.2.2.2.2.2.2.2.2.2.2.2.2.2.2.2.2.2.2.2.2.2.2.2.2.2.2.2.2.2.2.2.2.2.2.2.1;have s_x_seen_e5_r:0<=s.x.seen.e5/\s.x.seen.e5<=18446744073709551615:=w.1.2.2.2.2.2.2.2.2.2.2.2.2.2.2.2.2.2.2.2.2.2.2.2.2.2.2.2.2.2.2.2.2.2.2.2.2.2.2.2.2.2.2.2.2.1;have s_x_seen_e6_r:0<=s.x.seen.e6/\s.x.seen.e6<=18446744073709551615:=w.1.2.2.2.2.2.2.2.2.2.2.2.2.2.2.2.2.2.2.2.2.2.2.2.2.2.2.2.2.2.2.2.2.2.2.2.2.2.2.2.2.2.2.2.2.2.1;have s_x_seen_e7_r:0<=s.x.seen.e7/\s.x.seen.e7<=18446744073709551615:=w.1.2.2.2.2.2.2.2.2.2.2.2.2.2.2.2.2.2.2.2.2.2.2.2.2.2.2.2.2.2.2.2.2.2.2.2.2.2.2.2.2.2.2.2.2.2.2.1;have s_x_seen_e8_r:0<=s.x.seen.e8/\s.x.seen.e8<=18446744073709551615:=w.1.2.2.2.2.2.2.2.2.2.2.2.2.2.2.2.2.2.2.2.2.2.2.2.2.2.2.2.2.2.2.2.2.2.2.2.2.2.2.2.2.2.2.2.2.2.2.2.1;have s_x_seen_e9_r:0<=s.x.seen.e9/\s.x.seen.e9<=18446744073709551615:=w.1.2.2.2.2.2.2.2.2.2.2.2.2.2.2.2.2.2.2.2.2.2.2.2.2.2.2.2.2.2.2.2.2.2.2.2.2.2.2.2.2.2.2.2.2.2.2.2.2.1;have s_x_seen_e10_r:0<=s.x.seen.e10/\s.x.seen.e10<=18446744073709551615:=w.1.2.2.2.2.2.2.2.2.2.2.2.2.2.2.2.2.2.2.2.2.2.2.2.2.2.2.2.2.2.2.2.2.2.2.2.2.2.2.2.2.2.2.2.2.2.2.2.2.2.1;have s_x_seen_e11_r:0<=s.x.seen.e11/\s.x.seen.e11<=18446744073709551615:=w.1.2.2.2.2.2.2.2.2.2.2.2.2.2.2.2.2.2.2.2.2.2.2.2.2.2.2.2.2.2.2.2.2.2.2.2.2.2.2.2.2.2.2.2.2.2.2.2.2.2.2.1;have s_x_seen_e12_r:0<=s.x.seen.e12/\s.x.seen.e12<=18446744073709551615:=w.1.2.2.2.2.2.2.2.2.2.2.2.2.2.2.2.2.2.2.2.2.2.2.2.2.2.2.2.2.2.2.2.2.2.2.2.2.2.2.2.2.2.2.2.2.2.2.2.2.2.2.2.1;have s_x_seen_e13_r:0<=s.x.seen.e13/\s.x.seen.e13<=18446744073709551615:=w.1.2.2.2.2.2.2.2.2.2.2.2.2.2.2.2.2.2.2.2.2.2.2.2.2.2.2.2.2.2.2.2.2.2.2.2.2.2.2.2.2.2.2.2.2.2.2.2.2.2.2.2.2.1;have s_x_seen_e14_r:0<=s.x.seen.e14/\s.x.seen.e14<=18446744073709551615:=w.1.2.2.2.2.2.2.2.2.2.2.2.2.2.2.2.2.2.2.2.2.2.2.2.2.2.2.2.2.2.2.2.2.2.2.2.2.2.2.2.2.2.2.2.2.2.2.2.2.2.2.2.2.2.1;have s_x_seen_e15_r:0<=s.x.seen.e15/\s.x.seen.e15<=18446744073709551615:=w.1.2.2.2.2.2.2.2.2.2.2.2.2.2.2.2.2.2.2.2.2.2.2.2.2.2.2.2.2.2.2.2.2.2.2.2.2.2.2.2.2.2.2.2.2.2.2.2.2.2.2.2.2.2.2.1;have s_policy_work_r:-9223372036854775808<=s.policy.work/\s.policy.work<=9223372036854775807:=w.1.2.2.2.2.2.2.2.2.2.2.2.2.2.2.2.2.2.2.2.2.2.2.2.2.2.2.2.2.2.2.2.2.2.2.2.2.2.2.2.2.2.2.2.2.2.2.2.2.2.2.2.2.2.2.2.2.2.2.2.2.2.2.2.2.2.2.2.2.2.2.2.1;have s_policy_give_r:-9223372036854775808<=s.policy.give/\s.policy.give<=9223372036854775807:=w.1.2.2.2.2.2.2.2.2.2.2.2.2.2.2.2.2.2.2.2.2.2.2.2.2.2.2.2.2.2.2.2.2.2.2.2.2.2.2.2.2.2.2.2.2.2.2.2.2.2.2.2.2.2.2.2.2.2.2.2.2.2.2.2.2.2.2.2.2.2.2.2.2.1;have s_policy_places_l:s.policy.places.length<=140737488355328:=w.1.2.2.2.2.2.2.2.2.2.2.2.2.2.2.2.2.2.2.2.2.2.2.2.2.2.2.2.2.2.2.2.2.2.2.2.2.2.2.2.2.2.2.2.2.2.2.2.2.2.2.2.2.2.2.2.2.2.2.2.2.2.2.2.2.2.2.2.2.2.2.2.2.2.1.1;have s_policy_slots_l:s.policy.slots.length<=140737488355328:=w.1.2.2.2.2.2.2.2.2.2.2.2.2.2.2.2.2.2.2.2.2.2.2.2.2.2.2.2.2.2.2.2.2.2.2.2.2.2.2.2.2.2.2.2.2.2.2.2.2.2.2.2.2.2.2.2.2.2.2.2.2.2.2.2.2.2.2.2.2.2.2.2.2.2.2.1.1;have s_policy_grants_l:s.policy.grants.length<=140737488355328:=w.1.2.2.2.2.2.2.2.2.2.2.2.2.2.2.2.2.2.2.2.2.2.2.2.2.2.2.2.2.2.2.2.2.2.2.2.2.2.2.2.2.2.2.2.2.2.2.2.2.2.2.2.2.2.2.2.2.2.2.2.2.2.2.2.2.2.2.2.2.2.2.2.2.2.2.2.1.1;have s_place_r:-9223372036854775808<=s.place/\s.place<=9223372036854775807:=w.1.2.2.2.2.2.2.2.2.2.2.2.2.2.2.2.2.2.2.2.2.2.2.2.2.2.2.2.2.2.2.2.2.2.2.2.2.2.2.2.2.2.2.2.2.2.2.2.2.2.2.2.2.2.2.2.2.2.2.2.2.2.2.2.2.2.2.2.2.2.2.2.2.2.2.2.2.1;have d_kind_r:0<=d.kind/\d.kind<=255:=w.2.1.1;have d_tick_r:0<=d.tick/\d.tick<=18446744073709551615:=w.2.1.2.1;have d_shop_name_l:d.shop.name.length<=9223372036854775807:=w.2.1.2.2.1;have d_shop_sort_r:0<=d.shop.sort/\d.shop.sort<=255:=w.2.1.2.2.2.1;have d_shop_to_l:d.shop.to'.length<=9223372036854775807:=w.2.1.2.2.2.2.1;have d_queue_name_l:d.queue.name.length<=9223372036854775807:=w.2.1.2.2.2.2.2.1;have d_queue_most_r:0<=d.queue.most/\d.queue.most<=18446744073709551615:=w.2.1.2.2.2.2.2.2.1;have d_queue_life_r:0<=d.queue.life/\d.queue.life<=18446744073709551615:=w.2.1.2.2.2.2.2.2.2.1;have d_queue_dead_l:d.queue.dead.length<=9223372036854775807:=w.2.1.2.2.2.2.2.2.2.2.1;have d_bind_shop_l:d.bind.shop.length<=9223372036854775807:=w.2.1.2.2.2.2.2.2.2.2.2.1;have d_bind_to_l:d.bind.to'.length<=9223372036854775807:=w.2.1.2.2.2.2.2.2.2.2.2.2.1;have d_bind_key_l:d.bind.key.length<=9223372036854775807:=w.2.1.2.2.2.2.2.2.2.2.2.2.2.2.1;have d_bind_want_l:d.bind.want.length<=140737488355328:=w.2.1.2.2.2.2.2.2.2.2.2.2.2.2.2.1.1;have d_name_l:d.name.length<=9223372036854775807:=w.2.1.2.2.2.2.2.2.2.2.2.2.2.2.2.2.2.1;have d_id_r:0<=d.id/\d.id<=18446744073709551615:=w.2.1.2.2.2.2.2.2.2.2.2.2.2.2.2.2.2.2.1;have d_how_r:0<=d.how/\d.how<=255:=w.2.1.2.2.2.2.2.2.2.2.2.2.2.2.2.2.2.2.2.1;have d_frm_r:0<=d.frm/\d.frm<=255:=w.2.1.2.2.2.2.2.2.2.2.2.2.2.2.2.2.2.2.2.2.1;have d_code_r:0<=d.code/\d.code<=255:=w.2.1.2.2.2.2.2.2.2.2.2.2.2.2.2.2.2.2.2.2.2.1;have d_number_r:0<=d.number/\d.number<=18446744073709551615:=w.2.1.2.2.2.2.2.2.2.2.2.2.2.2.2.2.2.2.2.2.2.2.1;have d_mail_id_r:0<=d.mail.id/\d.mail.id<=18446744073709551615:=w.2.1.2.2.2.2.2.2.2.2.2.2.2.2.2.2.2.2.2.2.2.2.2.1;have d_mail_shop_l:d.mail.shop.length<=9223372036854775807:=w.2.1.2.2.2.2.2.2.2.2.2.2.2.2.2.2.2.2.2.2.2.2.2.2.1;have d_mail_key_l:d.mail.key.length<=9223372036854775807:=w.2.1.2.2.2.2.2.2.2.2.2.2.2.2.2.2.2.2.2.2.2.2.2.2.2.1;have d_mail_head_l:d.mail.head.length<=140737488355328:=w.2.1.2.2.2.2.2.2.2.2.2.2.2.2.2.2.2.2.2.2.2.2.2.2.2.2.1.1;have d_mail_body_l:d.mail.body.length<=9223372036854775807:=w.2.1.2.2.2.2.2.2.2.2.2.2.2.2.2.2.2.2.2.2.2.2.2.2.2.2.2.1;have d_mail_due_r:0<=d.mail.due/\d.mail.due<=18446744073709551615:=w.2.1.2.2.2.2.2.2.2.2.2.2.2.2.2.2.2.2.2.2.2.2.2.2.2.2.2.2.1;have d_mail_hops_r:0<=d.mail.hops/\d.mail.hops<=255:=w.2.1.2.2.2.2.2.2.2.2.2.2.2.2.2.2.2.2.2.2.2.2.2.2.2.2.2.2.2.1;have d_text_l:d.text.length<=9223372036854775807:=w.2.1.2.2.2.2.2.2.2.2.2.2.2.2.2.2.2.2.2.2.2.2.2.2.2.2.2.2.2.2.1;have hs0:=hs;obtain⟨⟨⟨hb1,hb2,hb3⟩,hk0,hn,hu⟩,hp0,hq1,hq2⟩:=hs0;have hpp:=hp0;obtain⟨hp1,hp2,hp3,hp4,hp5,hp6,hp7⟩:=hpp;have hk1:=hk0;obtain⟨⟨hr1,hr2,hr3⟩,hr4,hr5,hr6⟩:=hk1;have hd0:=hd;obtain⟨hd1,hd2,hd3,hd4⟩:=hd0;have e0:=B2_.eq_1 s d;generalize B2_ s d=z at e0 ⊢;refine gm tv98 10 [0,1,2,3] fun B2=>?_;refine H7_ (ι:=Value×Nat) [2,3,4,5,6] [0,1,2,3] (fun ⟨u6,b7⟩=>[(7, .own 5 b7 0),(8, .val u6),(9, .int .i64 ((I_ s (J_ d.mail) d.tick).2.2.1)),(10, .int .i64 ((I_ s (J_ d.mail) d.tick).2.2.2))]) (fun ⟨u6,b7⟩=>[(4, .arr u6 8 230 OutR.pc ((I_ s (J_ d.mail) d.tick).2.1)),(5, .box b7 54 (B_.pc ((I_ s (J_ d.mail) d.tick).1)))]) (fun ⟨u6,b7⟩=>PV.wf (.agg (Mail.pc (J_ d.mail)))/\PV.wf (.tup [.agg (B_.pc ((I_ s (J_ d.mail) d.tick).1)), .val u6, .int .i64 ((I_ s (J_ d.mail) d.tick).2.2.1), .int .i64 ((I_ s (J_ d.mail) d.tick).2.2.2)])) ?_ ?_
  · refine aN [4,5,6,7,8,9,10,11] 17 mixd ?_;refine gX tv98 [0,1,2,4,5] 12 ?_;refine veL 3 [12] (by kernel_rfl) ⟨⟨_,rfl,?_⟩,⟨_,rfl,?_⟩,trivial⟩
    · refine ej rfl (eC (Ef_ d.mail) rfl fun w8=>?_);have hB8:=Qx_ d.mail;refine veL 6 [12] (by kernel_rfl) ⟨⟨_,rfl,?_⟩,⟨_,rfl,?_⟩,trivial⟩
      · refine ej rfl (ecallo 4 (D1_ s (J_ d.mail) _) rfl rfl fun u11 w10=>?_);refine gX tv98 [7,8,9,10,11] 5 ?_;refine vE 12 rfl (aL tv98 5 fun b12=>?_);refine vE 13 rfl (sA tv98 ?_);refine gX tv98 [14,15,16] 0 ?_;refine vD ?_;refine nX ⟨(u11),(b12)⟩ ?_ ⟨rfl,rfl,rfl,rfl,trivial⟩ ⟨rfl,rfl,trivial⟩;exact⟨w8,w10⟩
      refine ej rfl (aL tv98 5 fun b13=>?_);refine vE 6 rfl (ecallo 4 (D1_ s (J_ d.mail) _) rfl rfl fun u15 w14=>?_);refine gX tv98 [7,8,9,10,11] 4 ?_;refine vE 13 rfl (sA tv98 ?_);refine gX tv98 [14,15,16] 0 ?_;refine vD ?_;refine nX ⟨(u15),(b13)⟩ ?_ ⟨rfl,rfl,rfl,rfl,trivial⟩ ⟨rfl,rfl,trivial⟩;exact⟨w8,w14⟩
    refine ej rfl (aL tv98 5 fun b16=>?_);refine vE 3 rfl (eC (Ef_ d.mail) rfl fun w17=>?_);have hB17:=Qx_ d.mail;refine vE 6 rfl (ecallo 4 (D1_ s (J_ d.mail) _) rfl rfl fun u20 w19=>?_);refine gX tv98 [7,8,9,10,11] 4 ?_;refine vE 13 rfl (sA tv98 ?_);refine gX tv98 [14,15,16] 0 ?_;refine vD ?_;refine nX ⟨(u20),(b16)⟩ ?_ ⟨rfl,rfl,rfl,rfl,trivial⟩ ⟨rfl,rfl,trivial⟩;exact⟨w17,w19⟩
  generalize hr21:J_ d.mail=r;generalize hr22:I_ s r d.tick=r1;rintro⟨u6,b7⟩ ⟨w23,w24⟩;have e25:=e0.trans (F1_ hr21.symm);have hr21:=hr21.symm;have hA25:=Qx_ d.mail
  (try rw[<- hr21] at hA25)
  have e27:=e25.trans (F1_ hr22.symm);have hr22:=hr22.symm
  (try have hA27:=Lw_ (s:=s) (m:=r) (tick:=d.tick) (by first|assumption|exact Bt_ (by assumption)) (by (try dsimp only);first|omega|exact Od_ _);(try rw[<- hr22] at hA27);obtain⟨hA27_0,hA27_1,hA27_2⟩:=hA27)
  (try have hA28:=Lc_ (s:=s) (m:=r) (tick:=d.tick) (by first|assumption|exact Bt_ (by assumption));(try rw[<- hr22] at hA28))
  refine gx tv98 8 ?_;refine cN e27 (fun p32 e33=>?_) (fun p36 e37=>?_)
  · refine gm tv98 12 [] fun _=>?_;subst e33;exact qr3
  refine gm tv98 16 [6] fun B39=>?_;refine so_osl (t:=33) 4 rfl rfl ?_;refine ef (Um_ (Ek_ _ _ _) rfl rfl rfl rfl rfl rfl rfl fun w40=>?_);refine gm tv98 9 [] fun _=>?_;refine aN [2,3,4,7,8,9,10,11] 5 mixd ?_;refine gX tv98 [0,1] 3 ?_;refine vE 2 rfl (sA tv98 ?_);refine vT 3 rfl (sA tv98 ?_);refine gX tv98 [4] 0 ?_;refine vD ?_;refine gx tv98 2 ?_;subst e37;exact qr3
theorem Cc_ (s:B_) (d:DeedR) (hs:StOk s:=by assumption) (hd:DdOk d:=by assumption):Fn Tryz.prog gb 16 [.agg (B_.pc s), .agg (DeedR.pc d)] (.tup [.agg (B_.pc ((O_ s d).1)), .agg (X_.pc ((O_ s d).2.1)), .int .i64 ((O_ s d).2.2)]):=by
  refine fC Tryz.func16 tv98 Tryz.ntmps16 fun w N H hG=>?_;have s_x_book_shops_l:s.x.book.shops.length<=140737488355328:=w.1.1.1;have s_x_book_binds_l:s.x.book.binds.length<=140737488355328:=w.1.2.1.1;have s_x_stock_next_r:0<=s.x.stock.next /\ s.x.stock.next <= 18446744073709551615:=w.1.2.2.1;have s_x_stock_bytes_r:-9223372036854775808<=s.x.stock.bytes/\s.x.stock.bytes<=9223372036854775807:=w.1.2.2.2.1;have s_x_stock_rows_l:s.x.stock.rows.length<=140737488355328:=w.1.2.2.2.2.1.1;have s_x_notes_total_r:0<=s.x.notes.total/\s.x.notes.total<=18446744073709551615:=w.1.2.2.2.2.2.2.2.2.2.2.2.2.2.2.2.2.2.2.2.2.2.2.2.2.2.2.2.2.2.2.2.2.2.2.2.2.2.1;have s_x_notes_kept_l:s.x.notes.kept.length<=140737488355328:=w.1.2.2.2.2.2.2.2.2.2.2.2.2.2.2.2.2.2.2.2.2.2.2.2.2.2.2.2.2.2.2.2.2.2.2.2.2.2.2.1.1;have s_x_seen_e0_r:0<=s.x.seen.e0/\s.x.seen.e0<=18446744073709551615:=w.1.2.2.2.2.2.2.2.2.2.2.2.2.2.2.2.2.2.2.2.2.2.2.2.2.2.2.2.2.2.2.2.2.2.2.2.2.2.2.2.1;have s_x_seen_e1_r:0<=s.x.seen.e1/\s.x.seen.e1<=18446744073709551615:=w.1.2.2.2.2.2.2.2.2.2.2.2.2.2.2.2.2.2.2.2.2.2.2.2.2.2.2.2.2.2.2.2.2.2.2.2.2.2.2.2.2.1;have s_x_seen_e2_r:0<=s.x.seen.e2/\s.x.seen.e2<=18446744073709551615:=w.1.2.2.2.2.2.2.2.2.2.2.2.2.2.2.2.2.2.2.2.2.2.2.2.2.2.2.2.2.2.2.2.2.2.2.2.2.2.2.2.2.2.1;have s_x_seen_e3_r:0<=s.x.seen.e3/\s.x.seen.e3<=18446744073709551615:=w.1.2.2.2.2.2.2.2.2.2.2.2.2.2.2.2.2.2.2.2.2.2.2.2.2.2.2.2.2.2.2.2.2.2.2.2.2.2.2.2.2.2.2.1;have s_x_seen_e4_r:0<=s.x.seen.e4/\s.x.seen.e4<=18446744073709551615:=w.1.2.2.2.2.2.2.2.2.2.2.2.2.2.2.2.2.2.2.2.2.2.2.2.2.2.2.2.2.2.2.2.2.2.2.2.2.2.2.2.2.2.2.2.1;have s_x_seen_e5_r:0<=s.x.seen.e5/\s.x.seen.e5<=18446744073709551615:=w.1.2.2.2.2.2.2.2.2.2.2.2.2.2.2.2.2.2.2.2.2.2.2.2.2.2.2.2.2.2.2.2.2.2.2.2.2.2.2.2.2.2.2.2.2.1;have s_x_seen_e6_r:0<=s.x.seen.e6/\s.x.seen.e6<=18446744073709551615:=w.1.2.2.2.2.2.2.2.2.2.2.2.2.2.2.2.2.2.2.2.2.2.2.2.2.2.2.2.2.2.2.2.2.2.2.2.2.2.2.2.2.2.2.2.2.2.1;have s_x_seen_e7_r:0<=s.x.seen.e7/\s.x.seen.e7<=18446744073709551615:=w.1.2.2.2.2.2.2.2.2.2.2.2.2.2.2.2.2.2.2.2.2.2.2.2.2.2.2.2.2.2.2.2.2.2.2.2.2.2.2.2.2.2.2.2.2.2.2.1;have s_x_seen_e8_r:0<=s.x.seen.e8/\s.x.seen.e8<=18446744073709551615:=w.1.2.2.2.2.2.2.2.2.2.2.2.2.2.2.2.2.2.2.2.2.2.2.2.2.2.2.2.2.2.2.2.2.2.2.2.2.2.2.2.2.2.2.2.2.2.2.2.1;have s_x_seen_e9_r:0<=s.x.seen.e9/\s.x.seen.e9<=18446744073709551615:=w.1.2.2.2.2.2.2.2.2.2.2.2.2.2.2.2.2.2.2.2.2.2.2.2.2.2.2.2.2.2.2.2.2.2.2.2.2.2.2.2.2.2.2.2.2.2.2.2.2.1;have s_x_seen_e10_r:0<=s.x.seen.e10/\s.x.seen.e10<=18446744073709551615:=w.1.2.2.2.2.2.2.2.2.2.2.2.2.2.2.2.2.2.2.2.2.2.2.2.2.2.2.2.2.2.2.2.2.2.2.2.2.2.2.2.2.2.2.2.2.2.2.2.2.2.1;have s_x_seen_e11_r:0<=s.x.seen.e11/\s.x.seen.e11<=18446744073709551615:=w.1.2.2.2.2.2.2.2.2.2.2.2.2.2.2.2.2.2.2.2.2.2.2.2.2.2.2.2.2.2.2.2.2.2.2.2.2.2.2.2.2.2.2.2.2.2.2.2.2.2.2.1;have s_x_seen_e12_r:0<=s.x.seen.e12/\s.x.seen.e12<=18446744073709551615:=w.1.2.2.2.2.2.2.2.2.2.2.2.2.2.2.2.2.2.2.2.2.2.2.2.2.2.2.2.2.2.2.2.2.2.2.2.2.2.2.2.2.2.2.2.2.2.2.2.2.2.2.2.1;have s_x_seen_e13_r:0<=s.x.seen.e13/\s.x.seen.e13<=18446744073709551615:=w.1.2.2.2.2.2.2.2.2.2.2.2.2.2.2.2.2.2.2.2.2.2.2.2.2.2.2.2.2.2.2.2.2.2.2.2.2.2.2.2.2.2.2.2.2.2.2.2.2.2.2.2.2.1;have s_x_seen_e14_r:0<=s.x.seen.e14/\s.x.seen.e14<=18446744073709551615:=w.1.2.2.2.2.2.2.2.2.2.2.2.2.2.2.2.2.2.2.2.2.2.2.2.2.2.2.2.2.2.2.2.2.2.2.2.2.2.2.2.2.2.2.2.2.2.2.2.2.2.2.2.2.2.1;have s_x_seen_e15_r:0<=s.x.seen.e15/\s.x.seen.e15<=18446744073709551615:=w.1.2.2.2.2.2.2.2.2.2.2.2.2.2.2.2.2.2.2.2.2.2.2.2.2.2.2.2.2.2.2.2.2.2.2.2.2.2.2.2.2.2.2.2.2.2.2.2.2.2.2.2.2.2.2.1;have s_policy_work_r:-9223372036854775808<=s.policy.work/\s.policy.work<=9223372036854775807:=w.1.2.2.2.2.2.2.2.2.2.2.2.2.2.2.2.2.2.2.2.2.2.2.2.2.2.2.2.2.2.2.2.2.2.2.2.2.2.2.2.2.2.2.2.2.2.2.2.2.2.2.2.2.2.2.2.2.2.2.2.2.2.2.2.2.2.2.2.2.2.2.2.1;have s_policy_give_r:-9223372036854775808<=s.policy.give/\s.policy.give<=9223372036854775807:=w.1.2.2.2.2.2.2.2.2.2.2.2.2.2.2.2.2.2.2.2.2.2.2.2.2.2.2.2.2.2.2.2.2.2.2.2.2.2.2.2.2.2.2.2.2.2.2.2.2.2.2.2.2.2.2.2.2.2.2.2.2.2.2.2.2.2.2.2.2.2.2.2.2.1;have s_policy_places_l:s.policy.places.length<=140737488355328:=w.1.2.2.2.2.2.2.2.2.2.2.2.2.2.2.2.2.2.2.2.2.2.2.2.2.2.2.2.2.2.2.2.2.2.2.2.2.2.2.2.2.2.2.2.2.2.2.2.2.2.2.2.2.2.2.2.2.2.2.2.2.2.2.2.2.2.2.2.2.2.2.2.2.2.1.1;have s_policy_slots_l:s.policy.slots.length<=140737488355328:=w.1.2.2.2.2.2.2.2.2.2.2.2.2.2.2.2.2.2.2.2.2.2.2.2.2.2.2.2.2.2.2.2.2.2.2.2.2.2.2.2.2.2.2.2.2.2.2.2.2.2.2.2.2.2.2.2.2.2.2.2.2.2.2.2.2.2.2.2.2.2.2.2.2.2.2.1.1;have s_policy_grants_l:s.policy.grants.length<=140737488355328:=w.1.2.2.2.2.2.2.2.2.2.2.2.2.2.2.2.2.2.2.2.2.2.2.2.2.2.2.2.2.2.2.2.2.2.2.2.2.2.2.2.2.2.2.2.2.2.2.2.2.2.2.2.2.2.2.2.2.2.2.2.2.2.2.2.2.2.2.2.2.2.2.2.2.2.2.2.1.1;have s_place_r:-9223372036854775808<=s.place/\s.place<=9223372036854775807:=w.1.2.2.2.2.2.2.2.2.2.2.2.2.2.2.2.2.2.2.2.2.2.2.2.2.2.2.2.2.2.2.2.2.2.2.2.2.2.2.2.2.2.2.2.2.2.2.2.2.2.2.2.2.2.2.2.2.2.2.2.2.2.2.2.2.2.2.2.2.2.2.2.2.2.2.2.2.1;have d_kind_r:0<=d.kind/\d.kind<=255:=w.2.1.1;have d_tick_r:0<=d.tick/\d.tick<=18446744073709551615:=w.2.1.2.1;have d_shop_name_l:d.shop.name.length<=9223372036854775807:=w.2.1.2.2.1;have d_shop_sort_r:0<=d.shop.sort/\d.shop.sort<=255:=w.2.1.2.2.2.1;have d_shop_to_l:d.shop.to'.length<=9223372036854775807:=w.2.1.2.2.2.2.1;have d_queue_name_l:d.queue.name.length<=9223372036854775807:=w.2.1.2.2.2.2.2.1;have d_queue_most_r:0<=d.queue.most/\d.queue.most<=18446744073709551615:=w.2.1.2.2.2.2.2.2.1;have d_queue_life_r:0<=d.queue.life/\d.queue.life<=18446744073709551615:=w.2.1.2.2.2.2.2.2.2.1;have d_queue_dead_l:d.queue.dead.length<=9223372036854775807:=w.2.1.2.2.2.2.2.2.2.2.1;have d_bind_shop_l:d.bind.shop.length<=9223372036854775807:=w.2.1.2.2.2.2.2.2.2.2.2.1;have d_bind_to_l:d.bind.to'.length<=9223372036854775807:=w.2.1.2.2.2.2.2.2.2.2.2.2.1;have d_bind_key_l:d.bind.key.length<=9223372036854775807:=w.2.1.2.2.2.2.2.2.2.2.2.2.2.2.1;have d_bind_want_l:d.bind.want.length<=140737488355328:=w.2.1.2.2.2.2.2.2.2.2.2.2.2.2.2.1.1;have d_name_l:d.name.length<=9223372036854775807:=w.2.1.2.2.2.2.2.2.2.2.2.2.2.2.2.2.2.1;have d_id_r:0<=d.id/\d.id<=18446744073709551615:=w.2.1.2.2.2.2.2.2.2.2.2.2.2.2.2.2.2.2.1;have d_how_r:0<=d.how/\d.how<=255:=w.2.1.2.2.2.2.2.2.2.2.2.2.2.2.2.2.2.2.2.1;have d_frm_r:0<=d.frm/\d.frm<=255:=w.2.1.2.2.2.2.2.2.2.2.2.2.2.2.2.2.2.2.2.2.1;have d_code_r:0<=d.code/\d.code<=255:=w.2.1.2.2.2.2.2.2.2.2.2.2.2.2.2.2.2.2.2.2.2.1;have d_number_r:0<=d.number/\d.number<=18446744073709551615:=w.2.1.2.2.2.2.2.2.2.2.2.2.2.2.2.2.2.2.2.2.2.2.1;have d_mail_id_r:0<=d.mail.id/\d.mail.id<=18446744073709551615:=w.2.1.2.2.2.2.2.2.2.2.2.2.2.2.2.2.2.2.2.2.2.2.2.1;have d_mail_shop_l:d.mail.shop.length<=9223372036854775807:=w.2.1.2.2.2.2.2.2.2.2.2.2.2.2.2.2.2.2.2.2.2.2.2.2.1;have d_mail_key_l:d.mail.key.length<=9223372036854775807:=w.2.1.2.2.2.2.2.2.2.2.2.2.2.2.2.2.2.2.2.2.2.2.2.2.2.1;have d_mail_head_l:d.mail.head.length<=140737488355328:=w.2.1.2.2.2.2.2.2.2.2.2.2.2.2.2.2.2.2.2.2.2.2.2.2.2.2.1.1;have d_mail_body_l:d.mail.body.length<=9223372036854775807:=w.2.1.2.2.2.2.2.2.2.2.2.2.2.2.2.2.2.2.2.2.2.2.2.2.2.2.2.1;have d_mail_due_r:0<=d.mail.due/\d.mail.due<=18446744073709551615:=w.2.1.2.2.2.2.2.2.2.2.2.2.2.2.2.2.2.2.2.2.2.2.2.2.2.2.2.2.1;have d_mail_hops_r:0<=d.mail.hops/\d.mail.hops<=255:=w.2.1.2.2.2.2.2.2.2.2.2.2.2.2.2.2.2.2.2.2.2.2.2.2.2.2.2.2.2.1;have d_text_l:d.text.length<=9223372036854775807:=w.2.1.2.2.2.2.2.2.2.2.2.2.2.2.2.2.2.2.2.2.2.2.2.2.2.2.2.2.2.2.1;have hs0:=hs;obtain⟨⟨⟨hb1,hb2,hb3⟩,hk0,hn,hu⟩,hp0,hq1,hq2⟩:=hs0;have hpp:=hp0;obtain⟨hp1,hp2,hp3,hp4,hp5,hp6,hp7⟩:=hpp;have hk1:=hk0;obtain⟨⟨hr1,hr2,hr3⟩,hr4,hr5,hr6⟩:=hk1;have hd0:=hd;obtain⟨hd1,hd2,hd3,hd4⟩:=hd0;have e0:=O_.eq_1 s d;generalize O_ s d=z at e0 ⊢;refine gm tv98 13 [0,1,2,3] fun B2=>?_;refine call (Oo_ _) rfl rfl fun w6=>?_;have :=Tb_ d;refine gx tv98 9 ?_;refine cN e0 (fun p9 e10=>?_) (fun p13 e14=>?_)
  · refine gm tv98 12 [] fun _=>?_;subst e10;exact qr3
  refine gm tv98 14 [4,5] fun B16=>?_;obtain⟨o,e_o,q_o⟩:=Zc_ e14;refine H7_ (ι:=Int×B_×X_) [2,4,5,6,8,9] [1,2,3,4] (fun ⟨e_1,x,x1⟩=>[(10, .int .i64 e_1)]) (fun ⟨e_1,x,x1⟩=>[(0, .box (B2 0) 54 (B_.pc x)),(5, .box (B16 1) 77 (X_.pc x1))]) (fun ⟨e_1,x,x1⟩=>o=(e_1,x,x1)) ?_ ?_
  · refine gx tv98 8 ?_;obtain⟨o1,e_o1,q_o1⟩:=Gg_ e_o;refine H7_ (ι:=Bool) [2,3,4,5,6,8,9,10,21] [0,1,2,3,4,5] (fun v=>[(28, .bool v)]) (fun v=>[]) (fun v=>o1=v) ?_ ?_
    · refine gx tv98 6 ?_;refine cD e_o1 (fun p19 e20=>?_) (fun p21 e22=>?_)
      · refine gx tv98 1 ?_;refine nX (decide (d.kind=2)) ?_ ⟨rfl,trivial⟩ trivial;exact e20
      refine gx tv98 4 ?_;refine nX (decide (d.kind=3)) ?_ ⟨rfl,trivial⟩ trivial;exact e22
    rintro v hp23;have e24:=Jc_ q_o1 hp23;refine gx tv98 1 ?_;refine cE e24 (fun h25 e26=>?_) (fun h25 e31=>?_)
    · refine gx tv98 3 ?_;refine cV e26 R18_ (Jk_ _ _) rfl fun r hr27 e29 w28=>?_;refine gm tv98 7 [] fun _=>?_;refine nX ⟨r.2,r.1,(⟨(⟨(⟨0,[],[],[],[],0,0⟩:Mail),false,false⟩:ItemR),0,0⟩:X_)⟩ ?_ ⟨rfl,trivial⟩ ⟨rfl,rfl,trivial⟩;exact e29
    refine gx tv98 6 ?_;refine cD e31 (fun p33 e34=>?_) (fun p39 e40=>?_)
    · refine gx tv98 3 ?_;refine cV e34 R22_ (Ld_ _ _) rfl fun r1 hr35 e37 w36=>?_;refine gm tv98 9 [] fun _=>?_;refine nX ⟨r1.2.2,r1.1,r1.2.1⟩ ?_ ⟨rfl,trivial⟩ ⟨rfl,rfl,trivial⟩;exact e37
    refine gx tv98 6 ?_;refine cD e40 (fun p42 e43=>?_) (fun p48 e49=>?_)
    · refine gx tv98 3 ?_;refine cV e43 R22_ (Ko_ _ _) rfl fun r2 hr44 e46 w45=>?_;refine gm tv98 9 [] fun _=>?_;refine nX ⟨r2.2.2,r2.1,r2.2.1⟩ ?_ ⟨rfl,trivial⟩ ⟨rfl,rfl,trivial⟩;exact e46
    refine gx tv98 6 ?_;refine cD e49 (fun p51 e52=>?_) (fun p57 e58=>?_)
    · refine gx tv98 3 ?_;refine cV e52 R22_ (Jl_ _ _) rfl fun r3 hr53 e55 w54=>?_;refine gm tv98 9 [] fun _=>?_;refine nX ⟨r3.2.2,r3.1,r3.2.1⟩ ?_ ⟨rfl,trivial⟩ ⟨rfl,rfl,trivial⟩;exact e55
    refine gx tv98 6 ?_;refine cD e58 (fun p60 e61=>?_) (fun p66 e67=>?_)
    · refine gx tv98 4 ?_;refine cV e61 R23_ (Kn_ _ _) rfl fun r4 hr62 e64 w63=>?_;refine gm tv98 7 [] fun _=>?_;refine nX ⟨0,r4.1,r4.2⟩ ?_ ⟨rfl,trivial⟩ ⟨rfl,rfl,trivial⟩;exact e64
    refine gx tv98 6 ?_;refine cD e67 (fun p69 e70=>?_) (fun p75 e76=>?_)
    · refine gx tv98 3 ?_;refine cV e70 R22_ (Kp_ _ _) rfl fun r5 hr71 e73 w72=>?_;refine gm tv98 9 [] fun _=>?_;refine nX ⟨r5.2.2,r5.1,r5.2.1⟩ ?_ ⟨rfl,trivial⟩ ⟨rfl,rfl,trivial⟩;exact e73
    refine gx tv98 6 ?_;refine cD e76 (fun p78 e79=>?_) (fun p90 e91=>?_)
    · refine gx tv98 5 ?_;refine cV e79 R6_ (Km_ _) rfl fun r6 hr80 e82 w81=>?_;have hA82:=Ux_ (s:=s.x.stock) (by first|assumption|exact StOk.stk (by assumption))
      (try rw[<- hr80] at hA82)
      refine gm tv98 9 [] fun _=>?_;refine cV e82 R21_ (D0_ (⟨(⟨s.x.book,r6,s.x.notes,s.x.seen,s.x.spent⟩:A0_),s.policy,s.place⟩:B_) _ _ _) rfl fun r7 hr85 e87 w86=>?_
      (try have hA87:=H8_ (s:=(⟨(⟨s.x.book,r6,s.x.notes,s.x.seen,s.x.spent⟩:A0_),s.policy,s.place⟩:B_)) (t:=d.tick) (k:=3) (x:=[]) (by first|assumption|exact Bt_ (by assumption));(try rw[<- hr85] at hA87);obtain⟨hA87_0,hA87_1⟩:=hA87)
      refine gm tv98 3 [] fun _=>?_;refine nX ⟨0,r7,(⟨(⟨(⟨0,[],[],[],[],0,0⟩:Mail),false,false⟩:ItemR),0,0⟩:X_)⟩ ?_ ⟨rfl,trivial⟩ ⟨rfl,rfl,trivial⟩;exact e87
    refine gx tv98 6 ?_;refine cD e91 (fun p93 e94=>?_) (fun p99 e100=>?_)
    · refine gx tv98 11 ?_;refine cV e94 R9_ (Fy_ _ (⟨d.tick,d.code,d.text⟩:NoteR)) rfl fun r8 hr95 e97 w96=>?_;refine gm tv98 9 [] fun _=>?_;refine nX ⟨r8.2,(⟨(⟨s.x.book,s.x.stock,r8.1,s.x.seen,s.x.spent⟩:A0_),s.policy,s.place⟩:B_),(⟨(⟨(⟨0,[],[],[],[],0,0⟩:Mail),false,false⟩:ItemR),0,0⟩:X_)⟩ ?_ ⟨rfl,trivial⟩ ⟨rfl,rfl,trivial⟩;exact e97
    refine gx tv98 3 ?_;refine cV e100 R18_ (J5_ _ _) rfl fun r9 hr101 e103 w102=>?_;refine gm tv98 7 [] fun _=>?_;refine nX ⟨r9.2,r9.1,(⟨(⟨(⟨0,[],[],[],[],0,0⟩:Mail),false,false⟩:ItemR),0,0⟩:X_)⟩ ?_ ⟨rfl,trivial⟩ ⟨rfl,rfl,trivial⟩;exact e103
  rintro⟨e_1,x,x1⟩ hp105;have e106:=lt3_fin q_o hp105;refine gx tv98 8 ?_;refine cN e106 (fun p109 e110=>?_) (fun p113 e114=>?_)
  · refine gm tv98 12 [] fun _=>?_;subst e110;exact qr3
  refine gx tv98 3 ?_;refine aN [2,3,6,7,8,9,10,11] 5 mixd ?_;refine gX tv98 [0,1] 3 ?_;refine vE 2 rfl (sA tv98 ?_);refine vT 3 rfl (sA tv98 ?_);refine gX tv98 [4] 0 ?_;refine vD ?_;refine gx tv98 2 ?_;subst e114;exact qr3
theorem ag90:Ag Tryz.prog 90 false:=fun w=>by kernel_rfl
theorem eqg92:Tryz.prog.eqGuardType Tryz.prog.depth 92=false:=by kernel_rfl
theorem veq92 (p q:Al_):∀ (H:Hp) (vs us:List Value),Sims H (Al_.pc p) vs->Sims H (Al_.pc q) us->EqV Tryz.prog 10000 92 (.agg vs.toArray) (.agg us.toArray) (decide (p=q)):=by
  intro H vs us hv hu;obtain⟨_,_,rfl,v0,v_0⟩:=hv.inv_cons;obtain⟨_,_,rfl,v1,v_1⟩:=v_0.inv_cons
  cases v_1.inv_nil
  cases v0.inv_int.1;cases v1.inv_int.1
  obtain⟨_,_,rfl,u0,u_0⟩:=hu.inv_cons;obtain⟨_,_,rfl,u1,u_1⟩:=u_0.inv_cons
  cases u_1.inv_nil
  cases u0.inv_int.1;cases u1.inv_int.1
  exact EqV.to' (Lj_ Tryz.underlying92 (by kernel_rfl) (Ib_ (by decide) ag5 rfl rfl (H4_ Tryz.underlying5) (Ib_ (by decide) ag90 rfl rfl (H4_ Tryz.underlying90) Li_))) (by obtain⟨a0,a1⟩:=p;obtain⟨b0,b1⟩:=q;rw[Bool.eq_iff_iff];simp)
abbrev ty69:TI:=⟨.slc 148,1,24,[.sl Q_.pc []]⟩
abbrev ty70:TI:=⟨.slc 149,1,24,[.sl Ap_.pc []]⟩
abbrev ty72:TI:=⟨.agg [(0,1),(1,1),(2,1),(3,1),(4,1)],5,88,[.int .i64 0, .int .i64 0, .sl Q_.pc [], .sl i64c [], .sl Ap_.pc []]⟩
abbrev ty148:TI:=⟨.agg [(0,1),(1,2),(3,1),(4,1)],5,40,[.str [], .int .u8 0, .int .u32 0, .int .i64 0, .int .u64 0]⟩
abbrev ty149:TI:=⟨.agg [(0,1),(1,1),(2,1)],3,24,[.int .i64 0, .int .i64 0, .int .i64 0]⟩
def tbv99:Tb:=[(3,ty3),(5,ty5),(9,ty9),(22,ty22),(23,ty23),(24,ty24),(26,ty26),(36,ty36),(69,ty69),(70,ty70),(72,ty72),(90,ty90),(92,ty92),(94,ty94),(148,ty148),(149,ty149)]
theorem tv99:tbB Tryz.prog tbv99=true:=by kernel_rfl
theorem Oz_ (a:Al_) (i:Int) (hi:0<=i/\i<32:=by omega):Fn Tryz.prog gb 190 [.agg (Al_.pc a), .int .i64 i] (.bool (Qe_ a i)):=by
  refine fC Tryz.func190 tv99 Tryz.ntmps190 fun w N H hG=>?_;have a_level_r:0<=a.level/\a.level<=255:=w.1.1;have a_set__r:0<=a.set_/\a.set_<=4294967295:=w.1.2.1;have i_r:-9223372036854775808<=i/\i<=9223372036854775807:=w.2.1;have hf0:=has_fd a i (by omega);have e0:=Qe_.eq_1 a i;refine gmy tv99 18 [0] fun B2=>?_;exact rt1 rfl rfl (Aa_ (fun r:Bool=> .bool r) e0 (ple rfl))
theorem Sm_ (a:Al_) (b:Al_):Fn Tryz.prog gb 105 [.agg (Al_.pc a), .agg (Al_.pc b)] (.bool (K8_ a b)):=by
  refine fC Tryz.func105 tv99 Tryz.ntmps105 fun w N H hG=>?_;have e0:=K8_.eq_1 a b;generalize K8_ a b=z at e0 ⊢;refine gm tv99 17 [0,1] fun B2=>?_;refine cD e0 (fun p5 e6=>?_) (fun p7 e8=>?_)
  · refine gx tv99 7 ?_;subst e6;exact qr1
  refine gx tv99 9 ?_;refine loop (ι:=Nat×Nat) [2,3] [0,1] (fun ⟨f,i⟩=>[(5, .int .i64 (i:Int))]) (fun ⟨f,i⟩=>[]) (fun ⟨f,i⟩=>32-i<f/\z=Hx_ a b f i) (fun ⟨f,i⟩=>f) ⟨(32-0+1),0⟩ ⟨rfl,trivial⟩ trivial ?_ ?_
  · exact⟨Nat.lt_succ_self _,e8⟩
  rintro⟨f,i⟩ ⟨hp9_1,hp9_2⟩;obtain⟨f1,rfl⟩:∃ q,f=q+1:=⟨f-1,by omega⟩;have e_f1:=hp9_2.trans (Hx_.eq_2 _ _ _ _);refine gx tv99 7 ?_;refine cD e_f1 (fun p11 e12=>?_) (fun p20 e21=>?_)
  · refine gx tv99 8 ?_;refine call (Oz_ _ _) rfl rfl fun w13=>?_;refine gx tv99 3 ?_;refine callg rfl (fun hc=>(Oz_ _ _)) rfl ⟨(fun hc=>hc),(fun hc=>hc),trivial⟩ rfl rfl fun _=>?_;refine gy tv99 4 ?_;refine cE e12 (fun h14 e18=>?_) (fun h14 e19=>?_)
    · have h15:=bl h14;have h16:=br h14;have h17:=Cg_ h16;refine gx tv99 11 ?_;subst e18;exact qr1
    refine gy tv99 8 ?_;refine next ⟨f1,(i+1)⟩ rfl rfl ⟨rfl,trivial⟩ trivial ?_ ?_
    · (try simp only[]);omega
    exact⟨by (try simp only[]);omega,e19⟩
  refine gx tv99 11 ?_;subst e21;exact qr1
theorem Sn_ (p:D_):Fn Tryz.prog gb 46 [.agg (D_.pc p)] (.int .i64 (K9_ p)):=by
  refine fC Tryz.func46 tv99 Tryz.ntmps46 fun w N H hG=>?_;have p_places_l:p.places.length<=140737488355328:=w.1.2.2.1.1;have p_slots_l:p.slots.length<=140737488355328:=w.1.2.2.2.1.1;have p_grants_l:p.grants.length<=140737488355328:=w.1.2.2.2.2.1.1;have e0:=K9_.eq_1 p;generalize K9_ p=z at e0 ⊢;refine gmy tv99 29 [0] fun B2=>?_;refine cE e0 (fun h3 e4=>?_) (fun h3 e15=>?_)
  · refine gx tv99 7 ?_;subst e4;exact qr1
  have h5:=orl h3;have h6:=orl h5;have h7:=orl h6;have p8:=df h7;have h9:=orr h6;have p10:=df h9;have h11:=orr h5;have p12:=df h11;have h13:=orr h3;have p14:=df h13;refine gx tv99 17 ?_;refine cD e15 (fun p17 e18=>?_) (fun p19 e20=>?_)
  · refine gx tv99 7 ?_;subst e18;exact qr1
  refine gx tv99 9 ?_;refine cD e20 (fun p22 e23=>?_) (fun p24 e25=>?_)
  · refine gx tv99 7 ?_;subst e23;exact qr1
  refine gx tv99 12 ?_;refine loop (ι:=Nat) [1,3,45,46] [0] (fun k=>[(47, .int .i64 (k:Int))]) (fun k=>[]) (fun k=>k<=p.places.length/\z=E5_ p (p.places.drop k) k) (fun k=>p.places.length-k) 0 ⟨rfl,trivial⟩ trivial ?_ ?_
  · exact⟨Nat.zero_le _,e25⟩
  rintro k ⟨hp26_1,hp26_2⟩;refine gx tv99 6 ?_;refine cn rfl (fun p28=>?_) fun p78=>?_
  · have e29:=Dq_ (f:=fun zz=>E5_ p zz k) hp26_2 (Gz_ (by omega)) (E5_.eq_2 _ _ _ _);refine gx tv99 3 ?_;obtain⟨o,e_o,q_o⟩:=Jb_ e29;refine H7_ (ι:=Unit) [1,3,45,46,47] [0] (fun _=>[]) (fun _=>[]) (fun _=>o = .fin ()) ?_ ?_
    · have hc30:=getG (xs:=p.places) (k:=k) (by omega);refine gx tv99 4 ?_;refine q1 (qidx tv99 k rfl rfl rfl hc30 rfl rfl rfl rfl) rfl fun w31=>?_;refine gm tv99 10 [1] fun B33=>?_;refine call (T1_ _) rfl rfl fun w34=>?_;refine gx tv99 10 ?_;refine cN e_o (fun p37 e38=>?_) (fun p41 e42=>?_)
      · refine gx tv99 14 ?_;have e39:=Gu_ q_o e38;subst e39;exact qr1
      refine gy tv99 26 ?_;refine cE e42 (fun h43 e44=>?_) (fun h43 e56=>?_)
      · refine gx tv99 13 ?_;have e45:=Gu_ q_o e44;subst e45;exact qr1
      have h46:=orl h43;have h47:=orl h46;have h48:=orl h47;have p49:=df h48;have h50:=orr h47;have p51:=df h50;have h52:=orr h46;have p53:=df h52;have h54:=orr h43;have p55:=df h54;refine gx tv99 7 ?_;refine q1 (lshi tv99 k rfl rfl rfl rfl rfl (fun _=>rfl) rfl (by omega)) rfl fun w57=>?_;refine gx tv99 5 ?_;refine loop (ι:=Nat) [1,3,5,45,46,47,80,81] [0,1] (fun k1=>[(82, .int .i64 (k1:Int))]) (fun k1=>[]) (fun k1=>k1<=(p.places.take k).length/\o=E6_ (gt p.places k) ((p.places.take k).drop k1)) (fun k1=>(p.places.take k).length-k1) 0 ⟨rfl,trivial⟩ trivial ?_ ?_
      · exact⟨Nat.zero_le _,e56⟩
      rintro k1 ⟨hp58_1,hp58_2⟩;have hkl:(p.places.take k).length<=p.places.length:=List.length_take_le' ..;refine gx tv99 6 ?_;refine cn rfl (fun p60=>?_) fun p74=>?_
      · have e61:=Dq_ (f:=fun zz=>E6_ (gt p.places k) zz) hp58_2 (Gz_ (by omega)) (E6_.eq_2 _ _ _);have hc62:=getG (xs:=(p.places.take k)) (k:=k1) (by omega);refine gx tv99 6 ?_;refine q1 (qidx tv99 k1 rfl rfl rfl hc62 rfl rfl rfl rfl) rfl fun w63=>?_;refine gmy tv99 17 [2] fun B65=>?_;refine q1g [93,95] rfl (fun hc=>saeq rfl rfl eqg92 (veq92 ((gt (p.places.take k) k1).label) ((gt p.places k).label))) ⟨(fun hc=>hc),(fun hc=>hc),trivial⟩ rfl rfl rfl fun _=>?_;refine gy tv99 3 ?_;refine cE e61 (fun h66 e67=>?_) (fun h66 e73=>?_)
        · refine gx tv99 16 ?_;have e68:=Gu_ q_o e67;subst e68;exact qr1
        have h69:=orl h66;have p70:=df h69;have h71:=orr h66;have p72:=df h71;refine gy tv99 7 ?_;refine next (k1+1) rfl rfl ⟨rfl,trivial⟩ trivial ?_ ?_
        · (try simp only[]);omega
        exact⟨by (try simp only[]);omega,e73⟩
      have e75:=Dq_ (f:=fun zz=>E6_ (gt p.places k) zz) hp58_2 (G0_ (by omega)) (E6_.eq_1 _);refine gx tv99 5 ?_;refine nX () ?_ trivial trivial;exact e75
    rintro _ hp76;have e77:=Nq_ q_o hp76;refine gy tv99 5 ?_;refine next (k+1) rfl rfl ⟨rfl,trivial⟩ trivial ?_ ?_
    · (try simp only[]);omega
    exact⟨by (try simp only[]);omega,e77⟩
  have e79:=Dq_ (f:=fun zz=>E5_ p zz k) hp26_2 (G0_ (by omega)) (E5_.eq_1 _ _);refine gx tv99 14 ?_;refine cD e79 (fun p81 e82=>?_) (fun p83 e84=>?_)
  · refine gx tv99 7 ?_;subst e82;exact qr1
  refine gx tv99 11 ?_;refine cD e84 (fun p86 e87=>?_) (fun p88 e89=>?_)
  · refine gx tv99 7 ?_;subst e87;exact qr1
  refine gx tv99 12 ?_;refine loop (ι:=Nat) [1,3,109,110] [0] (fun k2=>[(111, .int .i64 (k2:Int))]) (fun k2=>[]) (fun k2=>k2<=p.slots.length/\z=E7_ p (p.slots.drop k2)) (fun k2=>p.slots.length-k2) 0 ⟨rfl,trivial⟩ trivial ?_ ?_
  · exact⟨Nat.zero_le _,e89⟩
  rintro k2 ⟨hp90_1,hp90_2⟩;refine gx tv99 6 ?_;refine cn rfl (fun p92=>?_) fun p103=>?_
  · have e93:=Dq_ (f:=fun zz=>E7_ p zz) hp90_2 (Gz_ (by omega)) (E7_.eq_2 _ _ _);have hc94:=getG (xs:=p.slots) (k:=k2) (by omega);refine gx tv99 6 ?_;refine q1 (qidx tv99 k2 rfl rfl rfl hc94 rfl rfl rfl rfl) rfl fun w95=>?_;refine gy tv99 15 ?_;refine cE e93 (fun h96 e97=>?_) (fun h96 e102=>?_)
    · refine gx tv99 11 ?_;subst e97;exact qr1
    have h98:=orl h96;have p99:=df h98;have h100:=orr h96;have p101:=df h100;refine gy tv99 7 ?_;refine next (k2+1) rfl rfl ⟨rfl,trivial⟩ trivial ?_ ?_
    · (try simp only[]);omega
    exact⟨by (try simp only[]);omega,e102⟩
  have e104:=Dq_ (f:=fun zz=>E7_ p zz) hp90_2 (G0_ (by omega)) (E7_.eq_1 _);refine gx tv99 14 ?_;refine cD e104 (fun p106 e107=>?_) (fun p108 e109=>?_)
  · refine gx tv99 7 ?_;subst e107;exact qr1
  refine gx tv99 12 ?_;refine loop (ι:=Nat) [1,3,128,129] [0] (fun k3=>[(130, .int .i64 (k3:Int))]) (fun k3=>[]) (fun k3=>k3<=p.grants.length/\z=E8_ p (p.grants.drop k3) k3) (fun k3=>p.grants.length-k3) 0 ⟨rfl,trivial⟩ trivial ?_ ?_
  · exact⟨Nat.zero_le _,e109⟩
  rintro k3 ⟨hp110_1,hp110_2⟩;refine gx tv99 6 ?_;refine cn rfl (fun p112=>?_) fun p170=>?_
  · have e113:=Dq_ (f:=fun zz=>E8_ p zz k3) hp110_2 (Gz_ (by omega)) (E8_.eq_2 _ _ _ _);refine gx tv99 3 ?_;obtain⟨o1,e_o1,q_o1⟩:=Jb_ e113;refine H7_ (ι:=Unit) [1,3,128,129,130] [0] (fun _=>[]) (fun _=>[]) (fun _=>o1 = .fin ()) ?_ ?_
    · have hc114:=getG (xs:=p.grants) (k:=k3) (by omega);refine gx tv99 4 ?_;refine q1 (qidx tv99 k3 rfl rfl rfl hc114 rfl rfl rfl rfl) rfl fun w115=>?_;refine gmy tv99 31 [1] fun B117=>?_;refine cE e_o1 (fun h118 e119=>?_) (fun h118 e131=>?_)
      · refine gx tv99 13 ?_;have e120:=Gu_ q_o1 e119;subst e120;exact qr1
      have h121:=orl h118;have h122:=orl h121;have h123:=orl h122;have p124:=df h123;have h125:=orr h122;have p126:=df h125;have h127:=orr h121;have p128:=df h127;have h129:=orr h118;have p130:=df h129;refine gx tv99 4 ?_;refine aN [2,3,4,5,6,7] 15 mixd ?_;refine gX tv99 [0,1,2,3] 11 ?_;have hc132:=getG (xs:=p.places) (k:=((gt p.grants k3).frm).toNat) (by omega);refine vq 4 (qidx tv99 ((gt p.grants k3).frm).toNat rfl rfl (by omega) hc132 rfl rfl rfl rfl) rfl (by kernel_rfl) rfl fun w133=>?_;refine gX tv99 [5,6,7,8,9,10] 4 ?_;have hc134:=getG (xs:=p.places) (k:=((gt p.grants k3).to').toNat) (by omega);refine vq 11 (qidx tv99 ((gt p.grants k3).to').toNat rfl rfl (by omega) hc134 rfl rfl rfl rfl) rfl (by kernel_rfl) rfl fun w135=>?_;refine gX tv99 [12,13] 1 ?_;refine vC 14 rfl (Sm_ _ _) rfl fun w136=>?_;refine vD ?_;refine gx tv99 1 ?_;refine cE e131 (fun h137 e138=>?_) (fun h137 e140=>?_)
      · refine gx tv99 13 ?_;have e139:=Gu_ q_o1 e138;subst e139;exact qr1
      refine gy tv99 15 ?_;refine cE e140 (fun h141 e142=>?_) (fun h141 e148=>?_)
      · refine gx tv99 13 ?_;have e143:=Gu_ q_o1 e142;subst e143;exact qr1
      have h144:=orl h141;have p145:=df h144;have h146:=orr h141;have p147:=df h146;refine gx tv99 7 ?_;refine q1 (lshi tv99 k3 rfl rfl rfl rfl rfl (fun _=>rfl) rfl (by omega)) rfl fun w149=>?_;refine gx tv99 5 ?_;refine loop (ι:=Nat) [1,3,12,128,129,130,181,182] [0,1] (fun k4=>[(183, .int .i64 (k4:Int))]) (fun k4=>[]) (fun k4=>k4<=(p.grants.take k3).length/\o1=E9_ (gt p.grants k3) ((p.grants.take k3).drop k4)) (fun k4=>(p.grants.take k3).length-k4) 0 ⟨rfl,trivial⟩ trivial ?_ ?_
      · exact⟨Nat.zero_le _,e148⟩
      rintro k4 ⟨hp150_1,hp150_2⟩;have hkl:(p.grants.take k3).length<=p.grants.length:=List.length_take_le' ..;refine gx tv99 6 ?_;refine cn rfl (fun p152=>?_) fun p166=>?_
      · have e153:=Dq_ (f:=fun zz=>E9_ (gt p.grants k3) zz) hp150_2 (Gz_ (by omega)) (E9_.eq_2 _ _ _);have hc154:=getG (xs:=(p.grants.take k3)) (k:=k4) (by omega);refine gx tv99 6 ?_;refine q1 (qidx tv99 k4 rfl rfl rfl hc154 rfl rfl rfl rfl) rfl fun w155=>?_;refine gmy tv99 21 [2] fun B157=>?_;refine cE e153 (fun h158 e163=>?_) (fun h158 e165=>?_)
        · have h159:=bl h158;have p160:=dt h159;have h161:=br h158;have p162:=dt h161;refine gx tv99 16 ?_;have e164:=Gu_ q_o1 e163;subst e164;exact qr1
        refine gy tv99 7 ?_;refine next (k4+1) rfl rfl ⟨rfl,trivial⟩ trivial ?_ ?_
        · (try simp only[]);omega
        exact⟨by (try simp only[]);omega,e165⟩
      have e167:=Dq_ (f:=fun zz=>E9_ (gt p.grants k3) zz) hp150_2 (G0_ (by omega)) (E9_.eq_1 _);refine gx tv99 5 ?_;refine nX () ?_ trivial trivial;exact e167
    rintro _ hp168;have e169:=Nq_ q_o1 hp168;refine gy tv99 5 ?_;refine next (k3+1) rfl rfl ⟨rfl,trivial⟩ trivial ?_ ?_
    · (try simp only[]);omega
    exact⟨by (try simp only[]);omega,e169⟩
  have e171:=Dq_ (f:=fun zz=>E8_ p zz k3) hp110_2 (G0_ (by omega)) (E8_.eq_1 _ _);refine gx tv99 12 ?_;refine loop (ι:=Nat×Nat) [1,3] [0] (fun ⟨f,i⟩=>[(15, .int .i64 (i:Int))]) (fun ⟨f,i⟩=>[]) (fun ⟨f,i⟩=>p.places.length-i<f/\z=Hy_ p f i) (fun ⟨f,i⟩=>f) ⟨(p.places.length-0+1),0⟩ ⟨rfl,trivial⟩ trivial ?_ ?_
  · exact⟨Nat.lt_succ_self _,e171⟩
  rintro⟨f,i⟩ ⟨hp172_1,hp172_2⟩;obtain⟨f1,rfl⟩:∃ q,f=q+1:=⟨f-1,by omega⟩;have e_f1:=hp172_2.trans (Hy_.eq_2 _ _ _);refine gx tv99 8 ?_;refine cD e_f1 (fun p174 e175=>?_) (fun p192 e193=>?_)
  · refine gx tv99 3 ?_;obtain⟨o2,e_o2,q_o2⟩:=Jb_ e175;refine H7_ (ι:=Unit) [1,3,15] [0] (fun _=>[]) (fun _=>[]) (fun _=>o2 = .fin ()) ?_ ?_
    · refine gx tv99 16 ?_;refine loop (ι:=Nat×Bool) [1,3,15,207,208] [0] (fun ⟨k5,has⟩=>[(209, .int .i64 (k5:Int)),(16, .bool has)]) (fun ⟨k5,has⟩=>[]) (fun ⟨k5,has⟩=>k5<=p.slots.length/\o2=Fa_ i (p.slots.drop k5) has) (fun ⟨k5,has⟩=>p.slots.length-k5) ⟨0,false⟩ ⟨rfl,rfl,trivial⟩ trivial ?_ ?_
      · exact⟨Nat.zero_le _,e_o2⟩
      rintro⟨k5,has⟩ ⟨hp176_1,hp176_2⟩;refine gx tv99 6 ?_;refine cn rfl (fun p178=>?_) fun p182=>?_
      · have e179:=Dq_ (f:=fun zz=>Fa_ i zz has) hp176_2 (Gz_ (by omega)) (Fa_.eq_2 _ _ _ _);have hc180:=getG (xs:=p.slots) (k:=k5) (by omega);refine gx tv99 6 ?_;refine q1 (qidx tv99 k5 rfl rfl rfl hc180 rfl rfl rfl rfl) rfl fun w181=>?_;refine gy tv99 19 ?_;refine next ⟨(k5+1),(has||(decide ((gt p.slots k5)=(i:Int))))⟩ rfl rfl ⟨rfl,rfl,trivial⟩ trivial ?_ ?_
        · (try simp only[]);omega
        exact⟨by (try simp only[]);omega,e179⟩
      have e183:=Dq_ (f:=fun zz=>Fa_ i zz has) hp176_2 (G0_ (by omega)) (Fa_.eq_1 _ _);refine gx tv99 11 ?_;refine cE e183 (fun h184 e186=>?_) (fun h184 e189=>?_)
      · have h185:=Cg_ h184;refine gx tv99 12 ?_;have e187:=Gu_ q_o2 e186;subst e187;exact qr1
      have h188:=Cf_ h184;refine gx tv99 2 ?_;refine nX () ?_ trivial trivial;exact e189
    rintro _ hp190;have e191:=Nq_ q_o2 hp190;refine gy tv99 6 ?_;refine next ⟨f1,(i+1)⟩ rfl rfl ⟨rfl,trivial⟩ trivial ?_ ?_
    · (try simp only[]);omega
    exact⟨by (try simp only[]);omega,e191⟩
  refine gx tv99 11 ?_;subst e193;exact qr1
theorem Ri_ (p:D_):Fn Tryz.prog gb 45 [.agg (D_.pc p)] (.bool (Id_ p)):=by
  refine fC Tryz.func45 tv99 Tryz.ntmps45 fun w N H hG=>?_;have p_places_l:p.places.length<=140737488355328:=w.1.2.2.1.1;have p_slots_l:p.slots.length<=140737488355328:=w.1.2.2.2.1.1;have p_grants_l:p.grants.length<=140737488355328:=w.1.2.2.2.2.1.1;have e0:=Id_.eq_1 p;generalize Id_ p=z at e0 ⊢;refine gmy tv99 27 [0] fun B2=>?_;refine cE e0 (fun h3 e4=>?_) (fun h3 e12=>?_)
  · refine gx tv99 7 ?_;subst e4;exact qr1
  have h5:=orl h3;have h6:=orl h5;have p7:=df h6;have h8:=orr h5;have p9:=df h8;have h10:=orr h3;have p11:=df h10;refine gx tv99 12 ?_;refine loop (ι:=Nat) [22,23] [0] (fun k=>[(24, .int .i64 (k:Int))]) (fun k=>[]) (fun k=>k<=p.places.length/\z=E1_ (p.places.drop k)) (fun k=>p.places.length-k) 0 ⟨rfl,trivial⟩ trivial ?_ ?_
  · exact⟨Nat.zero_le _,e12⟩
  rintro k ⟨hp13_1,hp13_2⟩;refine gx tv99 6 ?_;refine cn rfl (fun p15=>?_) fun p26=>?_
  · have e16:=Dq_ (f:=fun zz=>E1_ zz) hp13_2 (Gz_ (by omega)) (E1_.eq_2 _ _);have hc17:=getG (xs:=p.places) (k:=k) (by omega);refine gx tv99 6 ?_;refine q1 (qidx tv99 k rfl rfl rfl hc17 rfl rfl rfl rfl) rfl fun w18=>?_;refine gm tv99 13 [1] fun B20=>?_;refine cD e16 (fun p22 e23=>?_) (fun p24 e25=>?_)
    · refine gx tv99 11 ?_;subst e23;exact qr1
    refine gy tv99 7 ?_;refine next (k+1) rfl rfl ⟨rfl,trivial⟩ trivial ?_ ?_
    · (try simp only[]);omega
    exact⟨by (try simp only[]);omega,e25⟩
  have e27:=Dq_ (f:=fun zz=>E1_ zz) hp13_2 (G0_ (by omega)) (E1_.eq_1);refine gx tv99 11 ?_;subst e27;exact qr1
abbrev ty72v99b:TI:=⟨.agg [(0,1),(1,1),(2,1),(3,1),(4,1)],5,88,[.int .i64 0, .int .i64 0, .val (.slice none 0 0), .val (.slice none 0 0), .val (.slice none 0 0)]⟩
def tbv99b:Tb:=[(3,ty3),(22,ty22),(23,ty23),(24,ty24),(26,ty26),(69,ty69),(70,ty70),(72,ty72v99b),(87,ty87),(94,ty94),(148,ty148),(149,ty149)]
theorem Bu_:tbB Tryz.prog tbv99b=true:=by kernel_rfl
theorem Yk_ (p:D_) (hp:p.places.length<=100000/\p.slots.length<=100000/\p.grants.length<=100000:=by first|assumption|omega|exact poOk_l (by first|assumption|exact StOk.pol (by assumption))|exact Yl_ (by first|assumption|simpa using hc)):Fn Tryz.prog gb 15 [.agg (D_.pc p)] (.agg (D_.pc (Rj_ p))):=by
  refine fC Tryz.func15 Bu_ Tryz.ntmps15 fun w N H hG=>?_
  have p_places_l:p.places.length<=140737488355328:=w.1.2.2.1.1
  have p_slots_l:p.slots.length<=140737488355328:=w.1.2.2.2.1.1
  have p_grants_l:p.grants.length<=140737488355328:=w.1.2.2.2.2.1.1
  have e0:=Rj_.eq_1 p
  refine gm Bu_ 27 [0,1,2] fun B2=>?_
  refine Ok_ (i:=2) (o:=2) (k:=5) (e:=148) 3 Q_.pc rfl (by decide) rfl rfl ?_
  refine Ok_ (i:=2) (o:=3) (k:=1) (e:=3) 4 i64c rfl (by decide) rfl rfl ?_
  refine Ok_ (i:=2) (o:=4) (k:=3) (e:=149) 5 Ap_.pc rfl (by decide) rfl rfl ?_
  refine loop (ι:=Nat×Int×Int×(List Q_)×(List Int)×(List Ap_)×Value×Value×Value) [1,2,3,14,15] [0,1] (fun ⟨k,work,give_,places,slots,grants,u_places,u_slots,u_grants⟩=>[(16, .int .i64 (k:Int))]) (fun ⟨k,work,give_,places,slots,grants,u_places,u_slots,u_grants⟩=>[(2, .box (B2 2) 72 [.int .i64 work, .int .i64 give_, .osl 3, .osl 4, .osl 5]),(3, .arr u_places 5 148 Q_.pc places),(4, .arr u_slots 1 3 i64c slots),(5, .arr u_grants 3 149 Ap_.pc grants)]) (fun ⟨k,work,give_,places,slots,grants,u_places,u_slots,u_grants⟩=>k<=p.places.length/\Rj_ p=Hc_ p (p.places.drop k) work give_ places slots grants/\places.length<=k/\slots.length=0/\grants.length=0) (fun ⟨k,work,give_,places,slots,grants,u_places,u_slots,u_grants⟩=>p.places.length-k) ⟨0,p.work,p.give,[],[],[],(.slice none 0 0),(.slice none 0 0),(.slice none 0 0)⟩ ⟨rfl,trivial⟩ ⟨rfl,rfl,rfl,rfl,trivial⟩ ?_ ?_
  · exact⟨Nat.zero_le _,e0,⟨by simp,by simp,by simp⟩⟩
  · rintro⟨k,work,give_,places,slots,grants,u_places,u_slots,u_grants⟩ ⟨hp5_1,hp5_2,hp5_3⟩
    refine gx Bu_ 6 ?_
    refine cnd rfl (fun h6=>?_) (fun h6=>?_)
    · have p7:=dt h6
      have e8:=Dq_ (f:=fun zz=>Hc_ p zz work give_ places slots grants) hp5_2 (Gz_ (by omega)) (Hc_.eq_2 _ _ _ _ _ _ _ _)
      have hc9:=getG (xs:=p.places) (k:=k) (by omega)
      refine gx Bu_ 6 ?_
      refine q1 (qidx Bu_ k rfl rfl rfl hc9 rfl rfl rfl rfl) rfl fun w10=>?_
      refine gm Bu_ 9 [6] fun B12=>?_
      refine ef (bsl 7 Q_.pc [(gt p.places k)] Bu_ rfl rfl rfl rfl rfl (fun _=>rfl) rfl (by decide) (by decide) rfl fun u13=>?_)
      refine ef (app Bu_ [(gt p.places k)] rfl rfl rfl rfl rfl rfl rfl rfl rfl (src_o rfl rfl) (by first|omega|(simp;omega)) rfl fun u14=>?_)
      refine gx Bu_ 1 ?_
      refine ef (Iv_ Bu_ rfl rfl rfl rfl rfl rfl rfl rfl rfl ?_)
      refine gy Bu_ 7 ?_
      refine next ⟨(k+1),work,give_,(places++[(gt p.places k)]),slots,grants,(u14),(u_slots),(u_grants)⟩ rfl rfl ⟨rfl,trivial⟩ ⟨rfl,rfl,rfl,rfl,trivial⟩ ?_ ?_
      · (try simp only[]);omega
      · exact⟨by (try simp only[]);omega,e8,⟨(by (try simp only[List.length_append,List.length_cons,List.length_nil]);omega),by omega,by omega⟩⟩
    · have p15:=df h6
      have e16:=Dq_ (f:=fun zz=>Hc_ p zz work give_ places slots grants) hp5_2 (G0_ (by omega)) (Hc_.eq_1 _ _ _ _ _ _)
      refine gx Bu_ 11 ?_
      refine ef (app Bu_ p.slots rfl rfl rfl rfl rfl rfl rfl rfl rfl (src_l rfl (fun _=>rfl)) (by first|omega|(simp;omega)) rfl fun u17=>?_)
      refine gx Bu_ 1 ?_
      refine ef (Iv_ Bu_ rfl rfl rfl rfl rfl rfl rfl rfl rfl ?_)
      refine gx Bu_ 12 ?_
      refine loop (ι:=Nat×Int×Int×(List Q_)×(List Int)×(List Ap_)×Value×Value×Value) [2,3,34,35] [0,1] (fun ⟨k1,work1,give_1,places1,slots1,grants1,u_places1,u_slots1,u_grants1⟩=>[(36, .int .i64 (k1:Int))]) (fun ⟨k1,work1,give_1,places1,slots1,grants1,u_places1,u_slots1,u_grants1⟩=>[(2, .box (B2 2) 72 [.int .i64 work1, .int .i64 give_1, .osl 3, .osl 4, .osl 5]),(3, .arr u_places1 5 148 Q_.pc places1),(4, .arr u_slots1 1 3 i64c slots1),(5, .arr u_grants1 3 149 Ap_.pc grants1)]) (fun ⟨k1,work1,give_1,places1,slots1,grants1,u_places1,u_slots1,u_grants1⟩=>k1<=p.grants.length/\Rj_ p=Hd_ (p.grants.drop k1) work1 give_1 places1 slots1 grants1/\grants1.length<=k1) (fun ⟨k1,work1,give_1,places1,slots1,grants1,u_places1,u_slots1,u_grants1⟩=>p.grants.length-k1) ⟨0,work,give_,places,(slots++p.slots),grants,(u_places),(u17),(u_grants)⟩ ⟨rfl,trivial⟩ ⟨rfl,rfl,rfl,rfl,trivial⟩ ?_ ?_
      · exact⟨Nat.zero_le _,e16,by omega⟩
      · rintro⟨k1,work1,give_1,places1,slots1,grants1,u_places1,u_slots1,u_grants1⟩ ⟨hp18_1,hp18_2,hp18_3⟩
        refine gx Bu_ 6 ?_
        refine cnd rfl (fun h19=>?_) (fun h19=>?_)
        · have p20:=dt h19
          have e21:=Dq_ (f:=fun zz=>Hd_ zz work1 give_1 places1 slots1 grants1) hp18_2 (Gz_ (by omega)) (Hd_.eq_2 _ _ _ _ _ _ _)
          have hc22:=getG (xs:=p.grants) (k:=k1) (by omega)
          refine gx Bu_ 6 ?_
          refine q1 (qidx Bu_ k1 rfl rfl rfl hc22 rfl rfl rfl rfl) rfl fun w23=>?_
          refine gm Bu_ 9 [6] fun B25=>?_
          refine ef (bsl 7 Ap_.pc [(gt p.grants k1)] Bu_ rfl rfl rfl rfl rfl (fun _=>rfl) rfl (by decide) (by decide) rfl fun u26=>?_)
          refine ef (app Bu_ [(gt p.grants k1)] rfl rfl rfl rfl rfl rfl rfl rfl rfl (src_o rfl rfl) (by first|omega|(simp;omega)) rfl fun u27=>?_)
          refine gx Bu_ 1 ?_
          refine ef (Iv_ Bu_ rfl rfl rfl rfl rfl rfl rfl rfl rfl ?_)
          refine gy Bu_ 7 ?_
          refine next ⟨(k1+1),work1,give_1,places1,slots1,(grants1++[(gt p.grants k1)]),(u_places1),(u_slots1),(u27)⟩ rfl rfl ⟨rfl,trivial⟩ ⟨rfl,rfl,rfl,rfl,trivial⟩ ?_ ?_
          · (try simp only[]);omega
          · exact⟨by (try simp only[]);omega,e21,(by (try simp only[List.length_append,List.length_cons,List.length_nil]);omega)⟩
        · have p28:=df h19
          have e29:=Dq_ (f:=fun zz=>Hd_ zz work1 give_1 places1 slots1 grants1) hp18_2 (G0_ (by omega)) (Hd_.eq_1 _ _ _ _ _)
          refine gx Bu_ 7 ?_
          refine give 3 rfl ?_
          refine give 4 rfl ?_
          refine give 5 rfl ?_
          refine gm Bu_ 5 [] fun _=>?_
          exact rt1 rfl rfl (Aa_ (fun r:D_=> .agg (D_.pc r)) e29 (ple rfl))
def tbv99c:Tb:=[(26,ty26)]
theorem Mp_:tbB Tryz.prog tbv99c=true:=by kernel_rfl
theorem l05_May_ok (p:D_):Fn Tryz.prog gb 10 [.agg (D_.pc p)] (.bool (Yj_ p)):=by
  refine fC Tryz.func10 Mp_ Tryz.ntmps10 fun w N H hG=>?_
  have p_places_l:p.places.length<=140737488355328:=w.1.2.2.1.1
  have p_slots_l:p.slots.length<=140737488355328:=w.1.2.2.2.1.1
  have p_grants_l:p.grants.length<=140737488355328:=w.1.2.2.2.2.1.1
  have e0:=Yj_.eq_1 p
  refine gm Mp_ 9 [0] fun B2=>?_
  refine call (Ri_ _) rfl rfl fun w3=>?_
  refine gx Mp_ 2 ?_
  refine callg rfl (fun hc=>(Yk_ _)) rfl ⟨(fun hc=>hc),trivial⟩ rfl rfl fun _=>?_
  refine callg rfl (fun hc=>(Sn_ _)) rfl ⟨(fun hc=>hc),trivial⟩ rfl rfl fun _=>?_
  refine gy Mp_ 6 ?_
  exact rt1 rfl rfl (Aa_ (fun r:Bool=> .bool r) e0 (ple rfl))
theorem cb295:Z_ Tryz.prog 295:=U_ Tryz.func295 (by kernel_rfl) (by kernel_rfl)
theorem cb355:Z_ Tryz.prog 355:=U_ Tryz.func355 (by kernel_rfl) (by kernel_rfl)
def tbv120:Tb:=[(3,ty3),(5,ty5),(9,ty9),(78,ty78),(87,ty87),(92,ty92),(94,ty94),(303,ty303)]
theorem Cv_:tbB Tryz.prog tbv120=true:=by kernel_rfl
theorem strings_SplitL (s p:Bs) (hp:p=[10]) (hs:s.length<4294967281):Fn Tryz.prog gb 246 [.str s, .str p] (.sl strc (cuts 10 s)):=
  ⟨cb246,rfl,fun N H L w us hg hsim hm=>by
    obtain⟨v1,_,rfl,h1,h2⟩:=hsim.inv_cons;obtain⟨v2,_,rfl,h3,h4⟩:=h2.inv_cons
    cases h4.inv_nil
    rw[h1.inv_str.1,h3.inv_str.1]
    refine (SW.strings_SplitL H s p hp (gbML hg) hs N L w hm).mono fun _ _ ⟨v,H',h5,⟨a,c,h6,h7⟩,h8,h9⟩=>⟨v,H',h5,?_,h8,h9⟩
    rw[h6]
    exact Sim.of_slh (k:=1) ⟨h7.1,fun m hm=>by
      obtain⟨cs,hE,hat⟩:=h7.2 m hm;obtain⟨hE1,hE2⟩:=hE;subst hE1;exact⟨_,⟨rfl,Sims.nil.cons (Sim.str hE2),fun u hu=>by simp at hu;subst hu;rfl⟩,hat⟩⟩ (by have :=S9_ 10 s;omega)⟩
theorem strings_Flds (s:Bs) (hs:s.length<=65536) (hn:(flds s).length<=65536):Fn Tryz.prog gb 295 [.str s, .fn 296 [] []] (.sl strc (flds s)):=
  ⟨cb295,rfl,fun N H L w us hg hsim hm=>by
    obtain⟨v1,_,rfl,h1,h2⟩:=hsim.inv_cons;obtain⟨v2,_,rfl,h3,h4⟩:=h2.inv_cons
    cases h4.inv_nil
    rw[h1.inv_str.1,inv_fn0 h3]
    refine (SW.strings_Flds H s hs N L w hm).mono fun _ _ ⟨v,H',h5,⟨a,c,h6,h7⟩,h8,h9⟩=>⟨v,H',h5,?_,h8,h9⟩
    rw[h6]
    exact Sim.of_slh (k:=1) ⟨h7.1,fun m hm=>by
      obtain⟨cs,hE,hat⟩:=h7.2 m hm;obtain⟨hE1,hE2⟩:=hE;subst hE1;exact⟨_,⟨rfl,Sims.nil.cons (Sim.str hE2),fun u hu=>by simp at hu;subst hu;rfl⟩,hat⟩⟩ (by have :=hn;omega)⟩
theorem strconv_PU (s:Bs) (b z:Int) (hb:b=10) (hz:z=64) (hl:s.length<=19) (h0:0<s.length) (hd:Ez_ s=true):Fn Tryz.prog gb 355 [.str s, .int .i64 b, .int .i64 z] (.tup [.int .u64 (dec s:Int), .val .nilIface]):=
  ⟨cb355,rfl,fun N H L w us hg hsim hm=>by
    obtain⟨v1,_,rfl,h1,h2⟩:=hsim.inv_cons;obtain⟨v2,_,rfl,h3,h4⟩:=h2.inv_cons;obtain⟨v3,_,rfl,h5,h6⟩:=h4.inv_cons
    cases h6.inv_nil
    rw[h1.inv_str.1,h3.inv_int.1,h5.inv_int.1]
    subst hb;subst hz;refine (SW.strconv_PU s hl h0 hd w).mono fun _ _ ⟨he,hb⟩=>⟨_,H,he,?_, .refl H,Mem.below hm hb⟩;exact Sim.toTup (Sims.cons (Sim.int (Int.natCast_nonneg _) (dec_ok hl h0 hd).2) (Sims.cons Sim.val Sims.nil))⟩
theorem N2_ (s:Bs) (hs:s.length<=65536:=by omega) (hn:(flds s).length<=65536:=by first|assumption|exact hz_.2.1):Fn Tryz.prog gb 247 [.str s] (.sl strc (Gn_ s)):=by
  refine fC Tryz.func247 Cv_ Tryz.ntmps247 fun w N H hG=>?_;have s_l:s.length<=9223372036854775807:=w.1;have e0:=Gn_.eq_1 s;refine gx Cv_ 8 ?_;refine call (strings_Flds _ (by omega) (by assumption)) rfl rfl fun w1=>?_;refine gx Cv_ 4 ?_;exact rt1 rfl rfl (Aa_ (fun r:(List Bs)=> .sl strc r) e0 (ple rfl))
theorem Hh_ (n:Int) (least:Int) (most:Int):Fn Tryz.prog gb 337 [.int .i64 n, .int .i64 least, .int .i64 most] (.int .i64 (Fs_ n least most)):=by
  refine fC Tryz.func337 Cv_ Tryz.ntmps337 fun w N H hG=>?_;have n_r:-9223372036854775808<=n/\n<=9223372036854775807:=w.1;have least_r:-9223372036854775808<=least/\least<=9223372036854775807:=w.2.1;have most_r:-9223372036854775808<=most/\most<=9223372036854775807:=w.2.2.1;have e0:=Fs_.eq_1 n least most;generalize Fs_ n least most=z at e0 ⊢;refine gx Cv_ 15 ?_;refine cD e0 (fun p2 e3=>?_) (fun p4 e5=>?_)
  · refine gx Cv_ 8 ?_;subst e3;exact qr1
  refine gx Cv_ 8 ?_;refine cD e5 (fun p7 e8=>?_) (fun p9 e10=>?_)
  · refine gx Cv_ 8 ?_;subst e8;exact qr1
  refine gx Cv_ 9 ?_;subst e10;exact qr1
theorem Mg_ (y:Q_) (x1:Q_):Fn Tryz.prog gb 356 [.agg (Q_.pc y), .el (Q_.pc x1) 0] (.bool (G4_ y x1)):=by
  refine fC Tryz.func356 Cv_ Tryz.ntmps356 fun w N H hG=>?_;have e0:=G4_.eq_1 y x1;refine gmy Cv_ 18 [0] fun B2=>?_;refine q1g [11,13] rfl (fun hc=>saeq rfl rfl eqg92 (veq92 y.label x1.label)) ⟨(fun hc=>hc),(fun hc=>hc),trivial⟩ rfl rfl rfl fun _=>?_;refine gy Cv_ 5 ?_;exact rt1 rfl rfl (Aa_ (fun r:Bool=> .bool r) e0 (ple rfl))
theorem Mf_ (y:Ap_) (x1:Ap_):Fn Tryz.prog gb 359 [.agg (Ap_.pc y), .el (Ap_.pc x1) 0] (.bool (G3_ y x1)):=by
  refine fC Tryz.func359 Cv_ Tryz.ntmps359 fun w N H hG=>?_;have e0:=G3_.eq_1 y x1;refine gmy Cv_ 24 [0] fun B2=>?_;exact rt1 rfl rfl (Aa_ (fun r:Bool=> .bool r) e0 (ple rfl))
theorem Mx_ (s:List Int) (v:Int):Fn Tryz.prog gb 305 [.sl i64c s, .int .i64 v] (.bool (I5_ s v)):=by
  refine fC Tryz.func305 Cv_ Tryz.ntmps305 fun w N H hG=>?_;have s_l:s.length<=140737488355328:=w.1.1;have v_r:-9223372036854775808<=v/\v<=9223372036854775807:=w.2.1;have e0:=I5_.eq_1 s v;refine gx Cv_ 9 ?_;refine cV e0 R0_ (Yf_ _ _) rfl fun r hr1 e3 w2=>?_;have hA3:=Fo_ (fun y=>decide (v=y)) s
  (try rw[<- hr1] at hA3)
  refine gx Cv_ 5 ?_;exact rt1 rfl rfl (Aa_ (fun r:Bool=> .bool r) e3 (ple rfl))
theorem Xf_ (vals:List Int):Fn Tryz.prog gb 301 [.sl i64c vals] (.int .i64 (Qv_ vals)):=by
  refine fC Tryz.func301 Cv_ Tryz.ntmps301 fun w N H hG=>?_;have vals_l:vals.length<=140737488355328:=w.1.1;have e0:=Qv_.eq_1 vals;generalize Qv_ vals=z at e0 ⊢;refine gx Cv_ 19 ?_;refine loop (ι:=Nat) [3,6,7] [] (fun k=>[(8, .int .i64 (k:Int))]) (fun k=>[]) (fun k=>k<=vals.length/\z=G9_ (vals.drop k)) (fun k=>vals.length-k) 0 ⟨rfl,trivial⟩ trivial ?_ ?_
  · exact⟨Nat.zero_le _,e0⟩
  rintro k ⟨hp1_1,hp1_2⟩;refine gx Cv_ 6 ?_;refine cn rfl (fun p3=>?_) fun p14=>?_
  · have e4:=Dq_ (f:=fun zz=>G9_ zz) hp1_2 (Gz_ (by omega)) (G9_.eq_2 _ _);have hc5:=getG (xs:=vals) (k:=k) (by omega);refine gx Cv_ 6 ?_;refine q1 (qidx Cv_ k rfl rfl rfl hc5 rfl rfl rfl rfl) rfl fun w6=>?_;refine gx Cv_ 11 ?_;refine cN e4 (fun p9 e10=>?_) (fun p12 e13=>?_)
    · refine gx Cv_ 12 ?_;subst e10;exact qr1
    refine gy Cv_ 7 ?_;refine next (k+1) rfl rfl ⟨rfl,trivial⟩ trivial ?_ ?_
    · (try simp only[]);omega
    exact⟨by (try simp only[]);omega,e13⟩
  have e15:=Dq_ (f:=fun zz=>G9_ zz) hp1_2 (G0_ (by omega)) (G9_.eq_1);refine gx Cv_ 12 ?_;subst e15;exact qr1
theorem Mb_ (a:Al_):Fn Tryz.prog gb 357 [.agg (Al_.pc a)] (.bool (Fv_ a)):=by
  refine fC Tryz.func357 Cv_ Tryz.ntmps357 fun w N H hG=>?_;have e0:=Fv_.eq_1 a;refine gm Cv_ 15 [0] fun B2=>?_;exact rt1 rfl rfl (Aa_ (fun r:Bool=> .bool r) e0 (ple rfl))
theorem Ie_ (s:Bs) (most:Int) (hm:0<=most/\most<=1000:=by omega):Fn Tryz.prog gb 341 [.str s, .int .i64 most] (.tup [.int .i64 ((Bx_ s most).1), .str ((Bx_ s most).2.1), .int .i64 ((Bx_ s most).2.2)]):=by
  refine fC Tryz.func341 Cv_ Tryz.ntmps341 fun w N H hG=>?_;have s_l:s.length<=9223372036854775807:=w.1;have most_r:-9223372036854775808<=most/\most<=9223372036854775807:=w.2.1;have e0:=Bx_.eq_1 s most;generalize Bx_ s most=z at e0 ⊢;refine gx Cv_ 18 ?_;obtain⟨o,e_o,q_o⟩:=Zb_ e0;refine H7_ (ι:=Int×Int) [0,1,4,5,6] [] (fun ⟨k,n⟩=>[(7, .int .i64 k),(8, .int .i64 n)]) (fun ⟨k,n⟩=>[]) (fun ⟨k,n⟩=>o=(k,n)/\0<=k/\k<=s.length) ?_ ?_
  · refine gx Cv_ 1 ?_;refine loop (ι:=Nat×Nat×Int) [0,1,4,5,6] [] (fun ⟨f,k1,n1⟩=>[(7, .int .i64 (k1:Int)),(8, .int .i64 n1)]) (fun ⟨f,k1,n1⟩=>[]) (fun ⟨f,k1,n1⟩=>s.length-k1<f/\o=Bs_ s most f k1 n1/\k1<=s.length/\0<=n1/\n1<=10*most+9) (fun ⟨f,k1,n1⟩=>f) ⟨(s.length-0+1),0,0⟩ ⟨rfl,rfl,trivial⟩ trivial ?_ ?_
    · exact⟨Nat.lt_succ_self _,e_o,⟨by omega,by omega,by omega⟩⟩
    rintro⟨f,k1,n1⟩ ⟨hp1_1,hp1_2,hp1_3⟩;obtain⟨hi1,hi2,hi3⟩:=hp1_3;obtain⟨f1,rfl⟩:∃ q,f=q+1:=⟨f-1,by omega⟩;have e_f1:=hp1_2.trans (Bs_.eq_2 _ _ _ _ _);refine gx Cv_ 9 ?_;refine cD e_f1 (fun p3 e4=>?_) (fun p18 e19=>?_)
    · have :=u8r (s.getD k1 0);refine gx Cv_ 8 ?_;refine q1 (sidx Cv_ k1 rfl rfl rfl rfl rfl (by omega)) rfl fun w5=>?_;refine gy Cv_ 15 ?_;refine cE e4 (fun h6 e7=>?_) (fun h6 e12=>?_)
      · refine gx Cv_ 6 ?_;refine nX ⟨(k1:Int),n1⟩ ?_ ⟨rfl,rfl,trivial⟩ trivial;exact⟨e7,⟨by omega,by omega⟩⟩
      have h8:=orl h6;have p9:=df h8;have h10:=orr h6;have p11:=df h10;refine gx Cv_ 8 ?_;refine cD e12 (fun p14 e15=>?_) (fun p16 e17=>?_)
      · have :=wr_u8 (((s.getD k1 0).toNat:Int)-48);refine gy Cv_ 17 ?_;refine next ⟨f1,(k1+1),((10*n1)+(IntKind.wrap .u8 (((s.getD k1 0).toNat:Int)-48)))⟩ rfl rfl ⟨rfl,rfl,trivial⟩ trivial ?_ ?_
        · (try simp only[]);omega
        exact⟨by (try simp only[]);omega,e15,⟨by omega,by first|omega|(simp only[IntKind.wrap_u8];omega),by first|omega|(simp only[IntKind.wrap_u8];omega)⟩⟩
      refine gy Cv_ 9 ?_;refine next ⟨f1,(k1+1),n1⟩ rfl rfl ⟨rfl,rfl,trivial⟩ trivial ?_ ?_
      · (try simp only[]);omega
      exact⟨by (try simp only[]);omega,e17,⟨by omega,by first|omega|(simp only[IntKind.wrap_u8];omega),by first|omega|(simp only[IntKind.wrap_u8];omega)⟩⟩
    refine gx Cv_ 4 ?_;refine nX ⟨(k1:Int),n1⟩ ?_ ⟨rfl,rfl,trivial⟩ trivial;exact⟨e19,⟨by omega,by omega⟩⟩
  rintro⟨k,n⟩ ⟨hp20,hp20_3⟩;have e21:=lt2_fin q_o hp20;refine gy Cv_ 15 ?_;refine cE e21 (fun h22 e27=>?_) (fun h22 e28=>?_)
  · have h23:=bl h22;have p24:=dt h23;have h25:=br h22;have p26:=dt h25;refine gx Cv_ 11 ?_;subst e27;exact qr3
  refine gx Cv_ 1 ?_;obtain⟨o1,e_o1,q_o1⟩:=Gg_ e28;refine H7_ (ι:=Bool) [0,1,4,5,6,7,8] [] (fun v=>[(44, .bool v)]) (fun v=>[]) (fun v=>o1=v) ?_ ?_
  · refine gx Cv_ 7 ?_;refine cD e_o1 (fun p30 e31=>?_) (fun p32 e33=>?_)
    · refine gx Cv_ 1 ?_;refine nX (decide (k=0)) ?_ ⟨rfl,trivial⟩ trivial;exact e31
    have :=u8r (s.getD 0 0);refine gx Cv_ 5 ?_;refine q1g [50] rfl (fun hc=>sidx Cv_ 0 rfl rfl rfl rfl rfl (by first|omega|(simp only[gOf,bl2] at *;omega))) ⟨(fun hc=>hc),trivial⟩ rfl rfl rfl fun _=>?_;refine gy Cv_ 4 ?_;refine nX ((decide (1<k))&&(decide (((s.getD 0 0).toNat:Int)=48))) ?_ ⟨rfl,trivial⟩ trivial;exact e33
  rintro v hp34;have e35:=Jc_ q_o1 hp34;refine gx Cv_ 1 ?_;refine cE e35 (fun h36 e37=>?_) (fun h36 e38=>?_)
  · refine gx Cv_ 11 ?_;subst e37;exact qr3
  refine gx Cv_ 8 ?_;refine cD e38 (fun p40 e41=>?_) (fun p42 e43=>?_)
  · refine gx Cv_ 11 ?_;subst e41;exact qr3
  refine gx Cv_ 4 ?_;refine aN [0,1,2,3,4,5] 7 mixd ?_;refine gX Cv_ [0,1,2] 4 ?_;refine vq 3 (sslo Cv_ (k).toNat rfl rfl rfl rfl (by omega) (by omega)) rfl (by kernel_rfl) rfl fun w44=>?_;refine gX Cv_ [4,5,6] 0 ?_;refine vD ?_;refine gx Cv_ 3 ?_;subst e43;exact qr3
abbrev R24_:(Int×Int)->PV:=fun r=> .tup [.int .u64 r.1, .int .i64 r.2]
abbrev R25_:(Int×Bs×Int)->PV:=fun r=> .tup [.int .i64 r.1, .str r.2.1, .int .i64 r.2.2]
def tbv121:Tb:=[(3,ty3),(5,ty5),(9,ty9),(22,ty22),(23,ty23),(24,ty24),(26,ty26),(36,ty36),(78,ty78),(87,ty87),(90,ty90),(92,ty92),(94,ty94),(303,ty303)]
theorem P_:tbB Tryz.prog tbv121=true:=by kernel_rfl
theorem N1_ (x:Q_) (ahead:List Q_):Fn Tryz.prog gb 338 [.agg (Q_.pc x), .sl Q_.pc ahead] (.int .i64 (Gm_ x ahead)):=by
  refine fC Tryz.func338 P_ Tryz.ntmps338 fun w N H hG=>?_;have ahead_l:ahead.length<=140737488355328:=w.2.1.1;have e0:=Gm_.eq_1 x ahead;generalize Gm_ x ahead=z at e0 ⊢;refine gm P_ 8 [0] fun B2=>?_;refine freeze (i:=0) (t:=2) rfl rfl rfl rfl ?_;refine gx P_ 9 ?_;refine call (Ce_ _) rfl rfl fun w3=>?_;refine gx P_ 11 ?_;refine cN e0 (fun p6 e7=>?_) (fun p9 e10=>?_)
  · refine gx P_ 9 ?_;subst e7;exact qr1
  refine gx P_ 1 ?_;obtain⟨o,e_o,q_o⟩:=Gg_ e10;refine H7_ (ι:=Bool) [1,4,5] [] (fun v=>[(15, .bool v)]) (fun v=>[]) (fun v=>o=v) ?_ ?_
  · refine gx P_ 4 ?_;refine call (Mb_ _) rfl rfl fun w11=>?_;refine gx P_ 4 ?_;refine cE e_o (fun h12 e14=>?_) (fun h12 e16=>?_)
    · have h13:=Cg_ h12;refine gx P_ 1 ?_;refine nX (!(Fv_ x.label)) ?_ ⟨rfl,trivial⟩ trivial;exact e14
    have h15:=Cf_ h12;refine gx P_ 4 ?_;refine call (En_ _ _ _) rfl rfl fun w17=>?_;refine gx P_ 4 ?_;refine cE e16 (fun h18 e20=>?_) (fun h18 e22=>?_)
    · have h19:=Cg_ h18;refine gx P_ 1 ?_;refine nX (!(Bm_ x.bytes 0 65536)) ?_ ⟨rfl,trivial⟩ trivial;exact e20
    have h21:=Cf_ h18;refine gx P_ 6 ?_;refine nX (decide (x.base=0)) ?_ ⟨rfl,trivial⟩ trivial;exact e22
  rintro v hp23;have e24:=Jc_ q_o hp23;refine gx P_ 1 ?_;refine cE e24 (fun h25 e26=>?_) (fun h25 e27=>?_)
  · refine gx P_ 8 ?_;subst e26;exact qr1
  refine gx P_ 4 ?_;refine call (cF_Place _ _ _ _ (fun z_28:Q_=>(G4_ z_28 x)) (fun z_28=>Mg_ z_28 x)) rfl rfl fun w29=>?_;refine gx P_ 3 ?_;refine cD e27 (fun p31 e32=>?_) (fun p33 e34=>?_)
  · refine gx P_ 8 ?_;subst e32;exact qr1
  refine gx P_ 9 ?_;subst e34;exact qr1
theorem I1_ (p:D_) (x:Ap_) (ahead:List Ap_):Fn Tryz.prog gb 339 [.agg (D_.pc p), .agg (Ap_.pc x), .sl Ap_.pc ahead] (.int .i64 (Dv_ p x ahead)):=by
  refine fC Tryz.func339 P_ Tryz.ntmps339 fun w N H hG=>?_;have p_places_l:p.places.length<=140737488355328:=w.1.2.2.1.1;have p_slots_l:p.slots.length<=140737488355328:=w.1.2.2.2.1.1;have p_grants_l:p.grants.length<=140737488355328:=w.1.2.2.2.2.1.1;have ahead_l:ahead.length<=140737488355328:=w.2.2.1.1;have e0:=Dv_.eq_1 p x ahead;generalize Dv_ p x ahead=z at e0 ⊢;refine gm P_ 9 [0,1] fun B2=>?_;refine freeze (i:=1) (t:=4) rfl rfl rfl rfl ?_;refine gx P_ 12 ?_;refine call (Cz_ _ _) rfl rfl fun w4=>?_;refine gx P_ 4 ?_;refine cE e0 (fun h5 e7=>?_) (fun h5 e10=>?_)
  · have h6:=Cg_ h5;refine gx P_ 2 ?_;refine cndT rfl h5 ?_;refine gx P_ 8 ?_;subst e7;exact qr1
  have h8:=Cf_ h5;have hb8:=Vp_ h8
  (try obtain⟨hb8a,hb8b⟩:=hb8)
  refine gx P_ 4 ?_;refine call (Cz_ _ _) rfl rfl fun w11=>?_;refine gx P_ 4 ?_;refine cE e10 (fun h12 e14=>?_) (fun h12 e17=>?_)
  · have h13:=Cg_ h12;refine gx P_ 8 ?_;subst e14;exact qr1
  have h15:=Cf_ h12;have hb15:=Vp_ h15
  (try obtain⟨hb15a,hb15b⟩:=hb15)
  refine gx P_ 1 ?_;refine aN [1,2,3,4,5,6] 16 mixd ?_;refine gX P_ [0,1,2,3] 12 ?_;have hc18:=getG (xs:=p.places) (k:=(x.frm).toNat) (by omega);refine vq 4 (qidx P_ (x.frm).toNat rfl rfl (by omega) hc18 rfl rfl rfl rfl) rfl (by kernel_rfl) rfl fun w19=>?_;refine gX P_ [5,6,7,8,9,10] 5 ?_;have hc20:=getG (xs:=p.places) (k:=(x.to').toNat) (by omega);refine vq 11 (qidx P_ (x.to').toNat rfl rfl (by omega) hc20 rfl rfl rfl rfl) rfl (by kernel_rfl) rfl fun w21=>?_;refine gX P_ [12,13] 2 ?_;refine vC 14 rfl (Em_ _ _) rfl fun w22=>?_;refine gX P_ [15] 0 ?_;refine vD ?_;refine gx P_ 1 ?_;refine cE e17 (fun h23 e24=>?_) (fun h23 e25=>?_)
  · refine gx P_ 8 ?_;subst e24;exact qr1
  refine gx P_ 4 ?_;refine call (En_ _ _ _) rfl rfl fun w26=>?_;refine gx P_ 4 ?_;refine cE e25 (fun h27 e29=>?_) (fun h27 e31=>?_)
  · have h28:=Cg_ h27;refine gx P_ 8 ?_;subst e29;exact qr1
  have h30:=Cf_ h27;refine gx P_ 4 ?_;refine call (cF_Grant _ _ _ _ (fun z_32:Ap_=>(G3_ z_32 x)) (fun z_32=>Mf_ z_32 x)) rfl rfl fun w33=>?_;refine gx P_ 3 ?_;refine cD e31 (fun p35 e36=>?_) (fun p37 e38=>?_)
  · refine gx P_ 8 ?_;subst e36;exact qr1
  refine gx P_ 9 ?_;subst e38;exact qr1
theorem It_ (p:D_):Fn Tryz.prog gb 302 [.agg (D_.pc p)] (.int .i64 (Cp_ p)):=by
  refine fC Tryz.func302 P_ Tryz.ntmps302 fun w N H hG=>?_;have p_places_l:p.places.length<=140737488355328:=w.1.2.2.1.1;have p_slots_l:p.slots.length<=140737488355328:=w.1.2.2.2.1.1;have p_grants_l:p.grants.length<=140737488355328:=w.1.2.2.2.2.1.1;have e0:=Cp_.eq_1 p;refine gm P_ 11 [0] fun B2=>?_;refine cV e0 R0_ (Hh_ _ _ _) rfl fun r hr3 e5 w4=>?_;refine gx P_ 10 ?_;refine loop (ι:=Nat×Int×Nat) [1,2] [0] (fun ⟨f,e_1,i⟩=>[(3, .int .i64 e_1),(4, .int .i64 (i:Int))]) (fun ⟨f,e_1,i⟩=>[]) (fun ⟨f,e_1,i⟩=>p.places.length+1-i<f/\Cp_ p=Dm_ p f e_1 i/\i<=p.places.length) (fun ⟨f,e_1,i⟩=>f) ⟨(p.places.length+1-0+1),r,0⟩ ⟨rfl,rfl,trivial⟩ trivial ?_ ?_
  · exact⟨Nat.lt_succ_self _,e5,Nat.zero_le _⟩
  rintro⟨f,e_1,i⟩ ⟨hp6_1,hp6_2,hp6_3⟩;obtain⟨f1,rfl⟩:∃ q,f=q+1:=⟨f-1,by omega⟩;have e_f1:=hp6_2.trans (Dm_.eq_2 _ _ _ _);refine gy P_ 14 ?_;refine cE e_f1 (fun h7 e12=>?_) (fun h7 e17=>?_)
  · have h8:=bl h7;have p9:=dt h8;have h10:=br h7;have p11:=dt h10;refine gx P_ 4 ?_;refine aN [1,2,3,4,5,6] 11 mixd ?_;refine gX P_ [0,1,2] 8 ?_;have hc13:=getG (xs:=p.places) (k:=i) (by omega);refine vq 3 (qidx P_ i rfl rfl rfl hc13 rfl rfl rfl rfl) rfl (by kernel_rfl) rfl fun w14=>?_;refine gX P_ [4,5,6,7] 3 ?_;refine vq 8 (lshi P_ i rfl rfl rfl rfl rfl (fun _=>rfl) rfl (by omega)) rfl (by kernel_rfl) rfl fun w15=>?_;refine vC 9 rfl (N1_ _ _) rfl fun w16=>?_;refine gX P_ [10] 0 ?_;refine vD ?_;refine gy P_ 7 ?_;refine next ⟨f1,(Gm_ (gt p.places i) (p.places.take i)),(i+1)⟩ rfl rfl ⟨rfl,rfl,trivial⟩ trivial ?_ ?_
    · (try simp only[]);omega
    exact⟨by (try simp only[]);omega,e12,by omega⟩
  refine gx P_ 12 ?_;exact rt1 rfl rfl (Aa_ (fun r:Int=> .int .i64 r) e17 (ple rfl))
theorem I2_ (p:D_):Fn Tryz.prog gb 303 [.agg (D_.pc p)] (.int .i64 (C0_ p)):=by
  refine fC Tryz.func303 P_ Tryz.ntmps303 fun w N H hG=>?_;have p_places_l:p.places.length<=140737488355328:=w.1.2.2.1.1;have p_slots_l:p.slots.length<=140737488355328:=w.1.2.2.2.1.1;have p_grants_l:p.grants.length<=140737488355328:=w.1.2.2.2.2.1.1;have e0:=C0_.eq_1 p;refine gm P_ 11 [0] fun B2=>?_;refine cV e0 R0_ (Hh_ _ _ _) rfl fun r hr3 e5 w4=>?_;refine gx P_ 10 ?_;refine loop (ι:=Nat×Int×Nat) [1,2] [0] (fun ⟨f,e_1,i⟩=>[(3, .int .i64 e_1),(4, .int .i64 (i:Int))]) (fun ⟨f,e_1,i⟩=>[]) (fun ⟨f,e_1,i⟩=>p.slots.length+1-i<f/\C0_ p=Cy_ p f e_1 i/\i<=p.slots.length) (fun ⟨f,e_1,i⟩=>f) ⟨(p.slots.length+1-0+1),r,0⟩ ⟨rfl,rfl,trivial⟩ trivial ?_ ?_
  · exact⟨Nat.lt_succ_self _,e5,Nat.zero_le _⟩
  rintro⟨f,e_1,i⟩ ⟨hp6_1,hp6_2,hp6_3⟩;obtain⟨f1,rfl⟩:∃ q,f=q+1:=⟨f-1,by omega⟩;have e_f1:=hp6_2.trans (Cy_.eq_2 _ _ _ _);refine gy P_ 14 ?_;refine cE e_f1 (fun h7 e12=>?_) (fun h7 e21=>?_)
  · have h8:=bl h7;have p9:=dt h8;have h10:=br h7;have p11:=dt h10;refine gx P_ 5 ?_;refine aN [1,2,3,4,5,6] 8 mixd ?_;refine gX P_ [0,1,2,3] 4 ?_;have hc13:=getG (xs:=p.slots) (k:=i) (by omega);refine vq 4 (qidx P_ i rfl rfl rfl hc13 rfl rfl rfl rfl) rfl (by kernel_rfl) rfl fun w14=>?_;refine gX P_ [5] 2 ?_;refine vC 6 rfl (Cz_ _ _) rfl fun w15=>?_;refine gX P_ [7] 0 ?_;refine vD ?_;refine gx P_ 1 ?_;refine cE e12 (fun h16 e18=>?_) (fun h16 e20=>?_)
    · have h17:=Cg_ h16;refine gy P_ 10 ?_;refine next ⟨f1,10,(i+1)⟩ rfl rfl ⟨rfl,rfl,trivial⟩ trivial ?_ ?_
      · (try simp only[]);omega
      exact⟨by (try simp only[]);omega,e18,by omega⟩
    have h19:=Cf_ h16;refine gy P_ 8 ?_;refine next ⟨f1,e_1,(i+1)⟩ rfl rfl ⟨rfl,rfl,trivial⟩ trivial ?_ ?_
    · (try simp only[]);omega
    exact⟨by (try simp only[]);omega,e20,by omega⟩
  refine gx P_ 12 ?_;exact rt1 rfl rfl (Aa_ (fun r:Int=> .int .i64 r) e21 (ple rfl))
theorem Is_ (p:D_):Fn Tryz.prog gb 304 [.agg (D_.pc p)] (.int .i64 (Co_ p)):=by
  refine fC Tryz.func304 P_ Tryz.ntmps304 fun w N H hG=>?_;have p_places_l:p.places.length<=140737488355328:=w.1.2.2.1.1;have p_slots_l:p.slots.length<=140737488355328:=w.1.2.2.2.1.1;have p_grants_l:p.grants.length<=140737488355328:=w.1.2.2.2.2.1.1;have e0:=Co_.eq_1 p;refine gm P_ 11 [0] fun B2=>?_;refine cV e0 R0_ (Hh_ _ _ _) rfl fun r hr3 e5 w4=>?_;refine gx P_ 10 ?_;refine loop (ι:=Nat×Int×Nat) [1,2] [0] (fun ⟨f,e_1,i⟩=>[(3, .int .i64 e_1),(4, .int .i64 (i:Int))]) (fun ⟨f,e_1,i⟩=>[]) (fun ⟨f,e_1,i⟩=>p.grants.length+1-i<f/\Co_ p=Dl_ p f e_1 i/\i<=p.grants.length) (fun ⟨f,e_1,i⟩=>f) ⟨(p.grants.length+1-0+1),r,0⟩ ⟨rfl,rfl,trivial⟩ trivial ?_ ?_
  · exact⟨Nat.lt_succ_self _,e5,Nat.zero_le _⟩
  rintro⟨f,e_1,i⟩ ⟨hp6_1,hp6_2,hp6_3⟩;obtain⟨f1,rfl⟩:∃ q,f=q+1:=⟨f-1,by omega⟩;have e_f1:=hp6_2.trans (Dl_.eq_2 _ _ _ _);refine gy P_ 14 ?_;refine cE e_f1 (fun h7 e12=>?_) (fun h7 e17=>?_)
  · have h8:=bl h7;have p9:=dt h8;have h10:=br h7;have p11:=dt h10;refine gx P_ 4 ?_;refine aN [1,2,3,4,5,6] 12 mixd ?_;refine gX P_ [0,1,2,3] 8 ?_;have hc13:=getG (xs:=p.grants) (k:=i) (by omega);refine vq 4 (qidx P_ i rfl rfl rfl hc13 rfl rfl rfl rfl) rfl (by kernel_rfl) rfl fun w14=>?_;refine gX P_ [5,6,7,8] 3 ?_;refine vq 9 (lshi P_ i rfl rfl rfl rfl rfl (fun _=>rfl) rfl (by omega)) rfl (by kernel_rfl) rfl fun w15=>?_;refine vC 10 rfl (I1_ _ _ _) rfl fun w16=>?_;refine gX P_ [11] 0 ?_;refine vD ?_;refine gy P_ 7 ?_;refine next ⟨f1,(Dv_ p (gt p.grants i) (p.grants.take i)),(i+1)⟩ rfl rfl ⟨rfl,rfl,trivial⟩ trivial ?_ ?_
    · (try simp only[]);omega
    exact⟨by (try simp only[]);omega,e12,by omega⟩
  refine gx P_ 12 ?_;exact rt1 rfl rfl (Aa_ (fun r:Int=> .int .i64 r) e17 (ple rfl))
theorem I0_ (p:D_):Fn Tryz.prog gb 249 [.agg (D_.pc p)] (.int .i64 (Ej_ p)):=by
  refine fC Tryz.func249 P_ Tryz.ntmps249 fun w N H hG=>?_;have p_places_l:p.places.length<=140737488355328:=w.1.2.2.1.1;have p_slots_l:p.slots.length<=140737488355328:=w.1.2.2.2.1.1;have p_grants_l:p.grants.length<=140737488355328:=w.1.2.2.2.2.1.1;have e0:=Ej_.eq_1 p;generalize Ej_ p=z at e0 ⊢;refine gm P_ 11 [0] fun B2=>?_;refine call (En_ _ _ _) rfl rfl fun w3=>?_;refine gy P_ 4 ?_;refine callg rfl (fun hc=>(En_ _ _ _)) rfl ⟨(fun hc=>hc),trivial⟩ rfl rfl fun _=>?_;refine gy P_ 4 ?_;refine cE e0 (fun h4 e5=>?_) (fun h4 e10=>?_)
  · refine gx P_ 7 ?_;subst e5;exact qr1
  have h6:=orl h4;have h7:=Cf_ h6;have h8:=orr h4;have h9:=Cf_ h8;refine gx P_ 4 ?_;refine aN [1,2,3,4,5,6] 9 mixd ?_;refine gX P_ [0] 8 ?_;refine vC 1 rfl (It_ _) rfl fun w11=>?_;refine gX P_ [2] 6 ?_;refine vC 3 rfl (I2_ _) rfl fun w12=>?_;refine gX P_ [4] 4 ?_;refine vC 5 rfl (Is_ _) rfl fun w13=>?_;refine vE 6 rfl (bsl 1 i64c [(Cp_ p),(C0_ p),(Co_ p)] P_ rfl rfl rfl rfl rfl (fun _=>rfl) rfl (by decide) (by decide) rfl fun u14=>?_);refine vE 7 rfl (calll 1 rfl (Xf_ _) rfl rfl rfl fun w15=>?_);refine gX P_ [8] 0 ?_;refine vD ?_;refine gx P_ 7 ?_;refine cN e10 (fun p18 e19=>?_) (fun p21 e22=>?_)
  · refine gx P_ 8 ?_;subst e19;exact qr1
  refine gx P_ 12 ?_;refine loop (ι:=Nat) [1,28] [0,1] (fun k=>[(29, .int .i64 (k:Int))]) (fun k=>[]) (fun k=>k<=p.places.length/\z=Bj_ p (p.places.drop k) k) (fun k=>p.places.length-k) 0 ⟨rfl,trivial⟩ trivial ?_ ?_
  · exact⟨Nat.zero_le _,e22⟩
  rintro k ⟨hp23_1,hp23_2⟩;refine gx P_ 6 ?_;refine cn rfl (fun p25=>?_) fun p33=>?_
  · have e26:=Dq_ (f:=fun zz=>Bj_ p zz k) hp23_2 (Gz_ (by omega)) (Bj_.eq_2 _ _ _ _);refine gx P_ 15 ?_;refine call (Mx_ _ _) rfl rfl fun w27=>?_;refine gx P_ 3 ?_;refine cE e26 (fun h28 e30=>?_) (fun h28 e32=>?_)
    · have h29:=Cg_ h28;refine gx P_ 11 ?_;subst e30;exact qr1
    have h31:=Cf_ h28;refine gy P_ 7 ?_;refine next (k+1) rfl rfl ⟨rfl,trivial⟩ trivial ?_ ?_
    · (try simp only[]);omega
    exact⟨by (try simp only[]);omega,e32⟩
  have e34:=Dq_ (f:=fun zz=>Bj_ p zz k) hp23_2 (G0_ (by omega)) (Bj_.eq_1 _ _);refine gx P_ 11 ?_;subst e34;exact qr1
theorem Iy_ (s:Bs) (most:Int) (hl:s.length<=19:=by omega):Fn Tryz.prog gb 336 [.str s, .int .u64 most] (.tup [.int .u64 ((Fe_ s most).1), .int .i64 ((Fe_ s most).2)]):=by
  refine fC Tryz.func336 P_ Tryz.ntmps336 fun w N H hG=>?_;have s_l:s.length<=9223372036854775807:=w.1;have most_r:0<=most/\most<=18446744073709551615:=w.2.1;have e0:=Fe_.eq_1 s most;generalize Fe_ s most=z at e0 ⊢;have :=u8r (s.getD 0 0);refine gy P_ 17 ?_;refine q1g [16] rfl (fun hc=>sidx P_ 0 rfl rfl rfl rfl rfl (by first|omega|(simp only[gOf,bl2] at *;omega))) ⟨(fun hc=>hc),trivial⟩ rfl rfl rfl fun _=>?_;refine gy P_ 5 ?_;refine cE e0 (fun h1 e2=>?_) (fun h1 e6=>?_)
  · refine gx P_ 8 ?_;subst e2;exact qr2
  have h3:=orl h1;have p4:=df h3;have h5:=orr h1;refine gx P_ 11 ?_;refine loop (ι:=Nat) [0,1,22] [] (fun k=>[(23, .int .i64 (k:Int))]) (fun k=>[]) (fun k=>k<=s.length/\z=C9_ s most (s.drop k)/\Ez_ (s.take k)=true) (fun k=>s.length-k) 0 ⟨rfl,trivial⟩ trivial ?_ ?_
  · exact⟨Nat.zero_le _,e6,rfl⟩
  rintro k ⟨hp7_1,hp7_2,hp7_3⟩;refine gx P_ 6 ?_;refine cnd rfl (fun h8=>?_) (fun h8=>?_)
  · have p9:=dt h8;have e10:=Dq_ (f:=fun zz=>C9_ s most zz) hp7_2 (Gz_ (by omega)) (C9_.eq_2 _ _ _ _);have :=u8r (s.getD k 0);refine gx P_ 14 ?_;refine q1 (sidx P_ k rfl rfl rfl rfl rfl (by omega)) rfl fun w11=>?_;have :=u8r (s.getD k 0);refine gx P_ 4 ?_;refine q1g [31,32] rfl (fun hc=>sidx P_ k rfl rfl rfl rfl rfl (by first|omega|(simp only[gOf,bl2] at *;omega))) ⟨(fun hc=>hc),(fun hc=>hc),trivial⟩ rfl rfl rfl fun _=>?_;refine gy P_ 4 ?_;refine cE e10 (fun h12 e13=>?_) (fun h12 e18=>?_)
    · refine gx P_ 12 ?_;subst e13;exact qr2
    have h14:=orl h12;have p15:=df h14;have h16:=orr h12;have p17:=df h16;refine gy P_ 7 ?_;refine next (k+1) rfl rfl ⟨rfl,trivial⟩ trivial ?_ ?_
    · (try simp only[]);omega
    exact⟨by (try simp only[]);omega,e18,dig_step (by assumption) (by omega) (by assumption)⟩
  have p19:=df h8;have e20:=Dq_ (f:=fun zz=>C9_ s most zz) hp7_2 (G0_ (by omega)) (C9_.eq_1 _ _);refine gx P_ 8 ?_;refine call (strconv_PU _ _ _ (by rfl) (by rfl) (by omega) (by exact List.length_pos_iff.2 (by assumption)) (by exact dig_all (by assumption) (by omega))) rfl rfl fun w21=>?_;refine gx P_ 11 ?_;refine q1 (qnilN rfl Tryz.underlying422) rfl fun w22=>?_;refine gx P_ 1 ?_;refine ungd rfl rfl ?_;refine gx P_ 1 ?_;refine ungd rfl rfl ?_;refine gx P_ 1 ?_;refine ungd rfl rfl ?_;refine gx P_ 4 ?_;refine cD e20 (fun p24 e25=>?_) (fun p26 e27=>?_)
  · refine gx P_ 8 ?_;subst e25;exact qr2
  refine gx P_ 10 ?_;subst e27;exact qr2
theorem C7_ (s:Bs) (hl:s.length<=19:=by omega):Fn Tryz.prog gb 297 [.str s] (.tup [.int .i64 ((C6_ s).1), .int .i64 ((C6_ s).2)]):=by
  refine fC Tryz.func297 P_ Tryz.ntmps297 fun w N H hG=>?_;have s_l:s.length<=9223372036854775807:=w.1;have e0:=C6_.eq_1 s;refine gx P_ 9 ?_;refine cV e0 R24_ (Iy_ _ _) rfl fun r hr1 e3 w2=>?_;refine gx P_ 17 ?_;exact rt2 rfl rfl (Aa_ (fun r:Int×Int=> .tup [.int .i64 r.1, .int .i64 r.2]) e3 (ple rfl))
theorem Cx_ (p:D_) (s:Bs):Fn Tryz.prog gb 298 [.agg (D_.pc p), .str s] (.tup [.int .i64 ((Ac_ p s).1), .int .i64 ((Ac_ p s).2)]):=by
  refine fC Tryz.func298 P_ Tryz.ntmps298 fun w N H hG=>?_;have p_places_l:p.places.length<=140737488355328:=w.1.2.2.1.1;have p_slots_l:p.slots.length<=140737488355328:=w.1.2.2.2.1.1;have p_grants_l:p.grants.length<=140737488355328:=w.1.2.2.2.2.1.1;have s_l:s.length<=9223372036854775807:=w.2.1;have e0:=Ac_.eq_1 p s;generalize Ac_ p s=z at e0 ⊢;refine gm P_ 12 [0] fun B2=>?_;refine cV e0 R0_ (D7_ _ _) rfl fun r hr3 e5 w4=>?_;have hA5:=Up_ p s
  (try rw[<- hr3] at hA5)
  refine gx P_ 9 ?_;refine cD e5 (fun p8 e9=>?_) (fun p10 e11=>?_)
  · refine gx P_ 9 ?_;subst e9;exact qr2
  refine gx P_ 9 ?_;subst e11;exact qr2
theorem Fl_ (s:Bs):Fn Tryz.prog gb 306 [.str s] (.tup [.agg (Al_.pc ((D5_ s).1)), .int .i64 ((D5_ s).2)]):=by
  refine fC Tryz.func306 P_ Tryz.ntmps306 fun w N H hG=>?_;have s_l:s.length<=9223372036854775807:=w.1;have e0:=D5_.eq_1 s;generalize D5_ s=z at e0 ⊢;refine gm P_ 9 [0] fun B2=>?_;refine cV e0 R25_ (Ie_ _ _) rfl fun r hr3 e5 w4=>?_;have hA5:=lnum_r s 15 (by omega)
  (try rw[<- hr3] at hA5)
  refine gx P_ 16 ?_;refine cN e5 (fun p9 e10=>?_) (fun p13 e14=>?_)
  · refine gm P_ 10 [] fun _=>?_;subst e10;exact qr2
  refine gm P_ 18 [1] fun B16=>?_;refine loop (ι:=Nat×Bs×Int×Al_) [2,6] [0] (fun ⟨f,s1,last,x⟩=>[(0, .str s1),(7, .int .i64 last)]) (fun ⟨f,s1,last,x⟩=>[(1, .box (B16 0) 92 (Al_.pc x))]) (fun ⟨f,s1,last,x⟩=>s1.length<f/\z=Fk_ f s1 last x/\True) (fun ⟨f,s1,last,x⟩=>f) ⟨(r.2.1.length+1),r.2.1,(-1),(⟨(IntKind.wrap .u8 r.1),0⟩:Al_)⟩ ⟨rfl,rfl,trivial⟩ ⟨rfl,trivial⟩ ?_ ?_
  · exact⟨Nat.lt_succ_self _,e14,trivial⟩
  rintro⟨f,s1,last,x⟩ ⟨hp17_1,hp17_2,hp17_3⟩;obtain⟨f1,rfl⟩:∃ q,f=q+1:=⟨f-1,by omega⟩;have e_f1:=hp17_2.trans (Fk_.eq_2 _ _ _ _);refine gx P_ 8 ?_;refine cD e_f1 (fun p19 e20=>?_) (fun p49 e50=>?_)
  · have :=u8r (s1.getD 0 0);refine gx P_ 7 ?_;refine q1 (sidx P_ 0 rfl rfl rfl rfl rfl (by omega)) rfl fun w21=>?_;refine gx P_ 3 ?_;refine cN e20 (fun p24 e25=>?_) (fun p28 e29=>?_)
    · refine gm P_ 13 [] fun _=>?_;subst e25;exact qr2
    refine gx P_ 5 ?_;refine q1 (sslo P_ 1 rfl rfl rfl rfl rfl (by omega)) rfl fun w30=>?_;refine cV e29 R25_ (Ie_ _ _) rfl fun r1 hr31 e33 w32=>?_;have hA33:=lnum_r (s1.drop 1) 31 (by omega)
    (try rw[<- hr31] at hA33)
    refine gx P_ 18 ?_;refine cN e33 (fun p37 e38=>?_) (fun p41 e42=>?_)
    · refine gm P_ 15 [] fun _=>?_;subst e38;exact qr2
    refine gx P_ 8 ?_;refine cD e42 (fun p44 e45=>?_) (fun p47 e48=>?_)
    · refine gm P_ 14 [] fun _=>?_;subst e45;exact qr2
    refine gx P_ 4 ?_;refine aN [2,3,4,5,6,7] 7 mixd ?_;have :=wr_u32 ((BitVec.ofInt (IntKind.bits .u32) x.set_ |||BitVec.ofInt (IntKind.bits .u32) (IntKind.wrap .u32 (1*2 ^ (min (r1.1:Int).toNat (IntKind.bits .u32))))).toNat)
    refine gXy P_ [0,1,2,3,4,5] 1 ?_;refine vT 6 rfl (sO P_ ?_);refine vD ?_;refine gx P_ 8 ?_;refine next ⟨f1,r1.2.1,r1.1,(⟨x.level,(IntKind.wrap .u32 ((BitVec.ofInt (IntKind.bits .u32) x.set_ |||BitVec.ofInt (IntKind.bits .u32) (IntKind.wrap .u32 (1*2 ^ (min (r1.1:Int).toNat (IntKind.bits .u32))))).toNat))⟩:Al_)⟩ rfl rfl ⟨rfl,rfl,trivial⟩ ⟨rfl,trivial⟩ ?_ ?_
    · (try simp only[]);omega
    exact⟨(by simp only[List.length_drop] at *;omega),e48,trivial⟩
  refine gm P_ 13 [] fun _=>?_;subst e50;exact qr2
abbrev R26_:(List Bs)->PV:=fun r=> .sl strc r
abbrev R27_:(Int×Int)->PV:=fun r=> .tup [.int .i64 r.1, .int .i64 r.2]
abbrev R28_:(Al_×Int)->PV:=fun r=> .tup [.agg (Al_.pc r.1), .int .i64 r.2]
theorem cb248:Z_ Tryz.prog 248:=U_ Tryz.func248 (by kernel_rfl) (by kernel_rfl)
theorem cb299:Z_ Tryz.prog 299:=U_ Tryz.func299 (by kernel_rfl) (by kernel_rfl)
theorem cb300:Z_ Tryz.prog 300:=U_ Tryz.func300 (by kernel_rfl) (by kernel_rfl)
abbrev ty26v122:TI:=⟨.agg [(0,1),(1,1),(2,1),(3,1),(4,1)],5,88,[.int .i64 0, .int .i64 0, .val (.slice none 0 0), .val (.slice none 0 0), .val (.slice none 0 0)]⟩
def tbv122:Tb:=[(3,ty3),(9,ty9),(22,ty22),(23,ty23),(24,ty24),(26,ty26v122),(87,ty87),(92,ty92),(94,ty94),(244,Qk_)]
theorem G_:tbB Tryz.prog tbv122=true:=by kernel_rfl
theorem N0_ (s:Bs) (hs:plen s=true:=by first|assumption|decide +kernel):Fn Tryz.prog gb 179 [.str s] (.tup [.agg (D_.pc ((Fr_ s).1)), .int .i64 ((Fr_ s).2.1), .int .i64 ((Fr_ s).2.2)]):=by
  refine fC Tryz.func179 G_ Tryz.ntmps179 fun w N H hG=>?_;have s_l:s.length<=9223372036854775807:=w.1;have hpl:=plen_ok hs;have hpl1:=hpl.1;have hcl:=S9_ 10 s;have e0:=Fr_.eq_1 s;generalize Fr_ s=z at e0 ⊢;refine gm G_ 16 [0,1] fun B2=>?_;refine call (strings_SplitL _ _ (by rfl) (by omega)) rfl rfl fun w4=>?_;refine gx G_ 5 ?_;refine Ok_ (i:=1) (o:=2) (k:=5) (e:=94) 2 Q_.pc rfl (by decide) rfl rfl ?_;refine Ok_ (i:=1) (o:=3) (k:=1) (e:=3) 3 i64c rfl (by decide) rfl rfl ?_;refine Ok_ (i:=1) (o:=4) (k:=3) (e:=87) 4 Ap_.pc rfl (by decide) rfl rfl ?_;refine loop (ι:=Nat×Int×Int×(List Q_)×(List Int)×(List Ap_)×Value×Value×Value) [2,5,12,13] [0] (fun ⟨k,work,give_,places,slots,grants,u_places,u_slots,u_grants⟩=>[(14, .int .i64 (k:Int))]) (fun ⟨k,work,give_,places,slots,grants,u_places,u_slots,u_grants⟩=>[(1, .box (B2 1) 26 [.int .i64 work, .int .i64 give_, .osl 2, .osl 3, .osl 4]),(2, .arr u_places 5 94 Q_.pc places),(3, .arr u_slots 1 3 i64c slots),(4, .arr u_grants 3 87 Ap_.pc grants)]) (fun ⟨k,work,give_,places,slots,grants,u_places,u_slots,u_grants⟩=>k<=(cuts 10 s).length/\z=Ah_ ((cuts 10 s).drop k) k work give_ places slots grants/\places.length<=k/\slots.length<=k/\grants.length<=k) (fun ⟨k,work,give_,places,slots,grants,u_places,u_slots,u_grants⟩=>(cuts 10 s).length-k) ⟨0,0,0,[],[],[],(.slice none 0 0),(.slice none 0 0),(.slice none 0 0)⟩ ⟨rfl,trivial⟩ ⟨rfl,rfl,rfl,rfl,trivial⟩ ?_ ?_
  · exact⟨Nat.zero_le _,e0,⟨by simp,by simp,by simp⟩⟩
  rintro⟨k,work,give_,places,slots,grants,u_places,u_slots,u_grants⟩ ⟨hp5_1,hp5_2,hp5_3⟩;refine gx G_ 6 ?_;refine cnd rfl (fun h6=>?_) (fun h6=>?_)
  · have p7:=dt h6;have e8:=Dq_ (f:=fun zz=>Ah_ zz k work give_ places slots grants) hp5_2 (Gz_ (by omega)) (Ah_.eq_2 _ _ _ _ _ _ _ _);have hc9:=getG (xs:=cuts 10 s) (k:=k) (by omega);have hz_hc9:=hpl.2 (gt (cuts 10 s) k) (List.mem_of_getElem? hc9);have hy_hc9:=hz_hc9.2.1;refine gx G_ 7 ?_;refine q1 (qidx G_ k rfl rfl rfl hc9 rfl rfl rfl rfl) rfl fun w10=>?_;refine gx G_ 8 ?_;refine cV e8 R26_ (N2_ _ (hn:=by assumption)) rfl fun r hr11 e13 w12=>?_;have hpw:=plen_w hs (show Gn_ (gt (cuts 10 s) k)=r from by first|assumption|exact Eq.symm (by assumption)) (by assumption);have hpw0:0<r.length->0<(gt r 0).length/\(gt r 0).length<=19:=fun q=>hpw _ (Jf_ q);refine gx G_ 11 ?_;refine q1g [25] rfl (fun hc=>qidx G_ 0 rfl rfl rfl (getG (by first|omega|(simp only[gOf,bl2] at *;omega))) rfl rfl rfl rfl) ⟨(fun hc=>hc),trivial⟩ rfl rfl rfl fun _=>?_;have :=u8r ((gt r 0).getD 0 0);refine gy G_ 1 ?_;refine q1g [27] rfl (fun hc=>sidx G_ 0 rfl rfl rfl rfl rfl (by first|omega|(simp only[gOf,bl2] at *;omega))) ⟨(fun hc=>hc),trivial⟩ rfl rfl rfl fun _=>?_;refine gy G_ 4 ?_;refine cE e13 (fun h14 e15=>?_) (fun h14 e20=>?_)
    · refine gy G_ 8 ?_;refine next ⟨(k+1),work,give_,places,slots,grants,(u_places),(u_slots),(u_grants)⟩ rfl rfl ⟨rfl,trivial⟩ ⟨rfl,rfl,rfl,rfl,trivial⟩ ?_ ?_
      · (try simp only[]);omega
      exact⟨by (try simp only[]);omega,e15,⟨(by (try simp only[List.length_append,List.length_cons,List.length_nil]);omega),(by (try simp only[List.length_append,List.length_cons,List.length_nil]);omega),(by (try simp only[List.length_append,List.length_cons,List.length_nil]);omega)⟩⟩
    have h16:=orl h14;have p17:=df h16;have h18:=orr h14;have p19:=df h18;refine gx G_ 5 ?_;refine hinl [] G_ Tryz.func248 rfl Tryz.ntmps248 cb248 rfl rfl rfl rfl fun Hc21 hHc21=>?_;have hc22:=getG (xs:=r) (k:=0) (by omega);have hz_hc22:=hpw (gt r 0) (List.mem_of_getElem? hc22);refine gx G_ 14 ?_;refine q1 (qidx G_ 0 rfl rfl rfl hc22 rfl rfl rfl rfl) rfl fun w23=>?_;refine gx G_ 10 ?_;refine cE e20 (fun h24 e26=>?_) (fun h24 e141=>?_)
    · have p25:=dt h24;refine gx G_ 14 ?_;refine cN e26 (fun p29 e30=>?_) (fun p33 e34=>?_)
      · refine gx G_ 7 ?_;refine inlr rfl rfl rfl trivial ?_;refine gx G_ 9 ?_;refine cndT rfl (by decide) ?_;refine gmy G_ 17 [] fun _=>?_;subst e30;exact rt3 rfl rfl (Dk_ (A_ (Dt_ (A_ (ple rfl) (A_ (ple rfl) (A_ L_ (A_ L_ (A_ L_ S_)))))) (A_ (ple rfl) (A_ (ple rfl) S_))))
      refine gx G_ 11 ?_;refine q1 (qidx G_ 0 rfl rfl rfl hc22 rfl rfl rfl rfl) rfl fun w35=>?_;refine gx G_ 10 ?_;refine cD e34 (fun p37 e38=>?_) (fun p53 e54=>?_)
      · have hc39:=getG (xs:=r) (k:=1) (by omega);have hz_hc39:=hpw (gt r 1) (List.mem_of_getElem? hc39);refine gx G_ 3 ?_;refine q1 (qidx G_ 1 rfl rfl rfl hc39 rfl rfl rfl rfl) rfl fun w40=>?_;refine gx G_ 1 ?_;refine cV e38 R27_ (C7_ _) rfl fun r1 hr41 e43 w42=>?_;refine gm G_ 17 [] fun _=>?_;refine inlr rfl rfl rfl trivial ?_;refine gx G_ 9 ?_;refine cN e43 (fun p47 e48=>?_) (fun p51 e52=>?_)
        · refine gmy G_ 17 [] fun _=>?_;subst e48;exact rt3 rfl rfl (Dk_ (A_ (Dt_ (A_ (ple rfl) (A_ (ple rfl) (A_ L_ (A_ L_ (A_ L_ S_)))))) (A_ (ple rfl) (A_ (ple rfl) S_))))
        refine gy G_ 7 ?_;refine next ⟨(k+1),r1.1,give_,places,slots,grants,(u_places),(u_slots),(u_grants)⟩ rfl rfl ⟨rfl,trivial⟩ ⟨rfl,rfl,rfl,rfl,trivial⟩ ?_ ?_
        · (try simp only[]);omega
        exact⟨by (try simp only[]);omega,e52,⟨(by (try simp only[List.length_append,List.length_cons,List.length_nil]);omega),(by (try simp only[List.length_append,List.length_cons,List.length_nil]);omega),(by (try simp only[List.length_append,List.length_cons,List.length_nil]);omega)⟩⟩
      refine gx G_ 6 ?_;refine cD e54 (fun p56 e57=>?_) (fun p72 e73=>?_)
      · have hc58:=getG (xs:=r) (k:=1) (by omega);have hz_hc58:=hpw (gt r 1) (List.mem_of_getElem? hc58);refine gx G_ 3 ?_;refine q1 (qidx G_ 1 rfl rfl rfl hc58 rfl rfl rfl rfl) rfl fun w59=>?_;refine gx G_ 1 ?_;refine cV e57 R27_ (C7_ _) rfl fun r2 hr60 e62 w61=>?_;refine gm G_ 17 [] fun _=>?_;refine inlr rfl rfl rfl trivial ?_;refine gx G_ 9 ?_;refine cN e62 (fun p66 e67=>?_) (fun p70 e71=>?_)
        · refine gmy G_ 17 [] fun _=>?_;subst e67;exact rt3 rfl rfl (Dk_ (A_ (Dt_ (A_ (ple rfl) (A_ (ple rfl) (A_ L_ (A_ L_ (A_ L_ S_)))))) (A_ (ple rfl) (A_ (ple rfl) S_))))
        refine gy G_ 7 ?_;refine next ⟨(k+1),work,r2.1,places,slots,grants,(u_places),(u_slots),(u_grants)⟩ rfl rfl ⟨rfl,trivial⟩ ⟨rfl,rfl,rfl,rfl,trivial⟩ ?_ ?_
        · (try simp only[]);omega
        exact⟨by (try simp only[]);omega,e71,⟨(by (try simp only[List.length_append,List.length_cons,List.length_nil]);omega),(by (try simp only[List.length_append,List.length_cons,List.length_nil]);omega),(by (try simp only[List.length_append,List.length_cons,List.length_nil]);omega)⟩⟩
      refine gx G_ 6 ?_;refine cD e73 (fun p75 e76=>?_) (fun p92 e93=>?_)
      · refine gx G_ 6 ?_;refine aN [5,6,7,8,9,10] 12 mixd ?_;refine gX G_ [0,1,2,3] 8 ?_;have hc77:=getG (xs:=r) (k:=1) (by omega);have hz_hc77:=hpw (gt r 1) (List.mem_of_getElem? hc77);refine vq 4 (qidx G_ 1 rfl rfl rfl hc77 rfl rfl rfl rfl) rfl (by kernel_rfl) rfl fun w78=>?_;refine gX G_ [5] 6 ?_;refine vE 6 rfl (Q1_ (Cx_ (⟨work,give_,places,slots,grants⟩:D_) _) rfl rfl (.agg (.same _ (.same _ (.lend 2 rfl (.lend 3 rfl (.lend 4 rfl .nil))))) (.same _ .nil)) rfl ?_);generalize hr80:Ac_ (⟨work,give_,places,slots,grants⟩:D_) (gt r 1)=r3;intro w79;have e81:=e76.trans (F1_ hr80.symm);refine gX G_ [7,8,9,10,11] 0 ?_;refine vD ?_;refine gx G_ 8 ?_;refine ef (bsl 5 i64c [r3.1] G_ rfl rfl rfl rfl rfl (fun _=>rfl) rfl (by decide) (by decide) rfl fun u82=>?_);refine ef (app G_ [r3.1] rfl rfl rfl rfl rfl rfl rfl rfl rfl (src_o rfl rfl) (by first|omega|(simp;omega)) rfl fun u83=>?_);refine gx G_ 2 ?_;refine ef (Iv_ G_ rfl rfl rfl rfl rfl rfl rfl rfl rfl ?_);refine gx G_ 10 ?_;refine inlr rfl rfl rfl trivial ?_;refine gx G_ 9 ?_;refine cN e81 (fun p86 e87=>?_) (fun p90 e91=>?_)
        · refine gmy G_ 17 [] fun _=>?_;subst e87;exact rt3 rfl rfl (Dk_ (A_ (Dt_ (A_ (ple rfl) (A_ (ple rfl) (A_ L_ (A_ L_ (A_ L_ S_)))))) (A_ (ple rfl) (A_ (ple rfl) S_))))
        refine gy G_ 7 ?_;refine next ⟨(k+1),work,give_,places,(slots++[r3.1]),grants,(u_places),(u83),(u_grants)⟩ rfl rfl ⟨rfl,trivial⟩ ⟨rfl,rfl,rfl,rfl,trivial⟩ ?_ ?_
        · (try simp only[]);omega
        exact⟨by (try simp only[]);omega,e91,⟨(by (try simp only[List.length_append,List.length_cons,List.length_nil]);omega),(by (try simp only[List.length_append,List.length_cons,List.length_nil]);omega),(by (try simp only[List.length_append,List.length_cons,List.length_nil]);omega)⟩⟩
      refine gx G_ 6 ?_;refine cndT rfl h24 ?_;refine gx G_ 4 ?_;refine hinl [] G_ Tryz.func299 rfl Tryz.ntmps299 cb299 rfl rfl rfl rfl fun Hc94 hHc94=>?_;have hc95:=getG (xs:=r) (k:=2) (by omega);have hz_hc95:=hpw (gt r 2) (List.mem_of_getElem? hc95);refine gx G_ 8 ?_;refine q1 (qidx G_ 2 rfl rfl rfl hc95 rfl rfl rfl rfl) rfl fun w96=>?_;refine gx G_ 1 ?_;refine cV e93 R28_ (Fl_ _) rfl fun r4 hr97 e99 w98=>?_;refine gm G_ 15 [5] fun B101=>?_;refine cE e99 (fun h102 e105=>?_) (fun h102 e109=>?_)
      · have h103:=Cg_ h102;have p104:=df h103;refine gx G_ 8 ?_;refine inlr rfl rfl rfl trivial ?_;refine gx G_ 6 ?_;refine inlr rfl rfl rfl trivial ?_;refine gx G_ 9 ?_;refine cndT rfl h102 ?_;refine gmy G_ 17 [] fun _=>?_;subst e105;exact rt3 rfl rfl (Dk_ (A_ (Dt_ (A_ (ple rfl) (A_ (ple rfl) (A_ L_ (A_ L_ (A_ L_ S_)))))) (A_ (ple rfl) (A_ (ple rfl) S_))))
      have h107:=Cf_ h102;have p108:=dt h107;have hc110:=getG (xs:=r) (k:=3) (by omega);have hz_hc110:=hpw (gt r 3) (List.mem_of_getElem? hc110);refine gx G_ 5 ?_;refine q1 (qidx G_ 3 rfl rfl rfl hc110 rfl rfl rfl rfl) rfl fun w111=>?_;refine gx G_ 1 ?_;refine cV e109 R27_ (C7_ _) rfl fun r5 hr112 e114 w113=>?_;refine gx G_ 14 ?_;refine cE e114 (fun h115 e118=>?_) (fun h115 e122=>?_)
      · have h116:=Cg_ h115;have p117:=df h116;refine gx G_ 8 ?_;refine inlr rfl rfl rfl trivial ?_;refine gx G_ 6 ?_;refine inlr rfl rfl rfl trivial ?_;refine gx G_ 9 ?_;refine cndT rfl h115 ?_;refine gmy G_ 17 [] fun _=>?_;subst e118;exact rt3 rfl rfl (Dk_ (A_ (Dt_ (A_ (ple rfl) (A_ (ple rfl) (A_ L_ (A_ L_ (A_ L_ S_)))))) (A_ (ple rfl) (A_ (ple rfl) S_))))
      have h120:=Cf_ h115;have p121:=dt h120;have hc123:=getG (xs:=r) (k:=4) (by omega);have hz_hc123:=hpw (gt r 4) (List.mem_of_getElem? hc123);refine gx G_ 5 ?_;refine q1 (qidx G_ 4 rfl rfl rfl hc123 rfl rfl rfl rfl) rfl fun w124=>?_;refine gx G_ 1 ?_;refine cV e122 R24_ (Iy_ _ _) rfl fun r6 hr125 e127 w126=>?_;refine gx G_ 8 ?_;refine aN [2,6,7,8,9,10,11] 17 mixd ?_;refine gX G_ [0,1,2,3,4,5] 11 ?_;have hc128:=getG (xs:=r) (k:=1) (by omega);have hz_hc128:=hpw (gt r 1) (List.mem_of_getElem? hc128);refine vq 6 (qidx G_ 1 rfl rfl rfl hc128 rfl rfl rfl rfl) rfl (by kernel_rfl) rfl fun w129=>?_;refine gX G_ [7,8,9,10,11] 5 ?_;refine vE 12 rfl (bsl 6 Q_.pc [(⟨(gt r 1),r4.1,r5.1,r6.1⟩:Q_)] G_ rfl rfl rfl rfl rfl (fun _=>rfl) rfl (by decide) (by decide) rfl fun u130=>?_);refine vE 13 rfl (app G_ [(⟨(gt r 1),r4.1,r5.1,r6.1⟩:Q_)] rfl rfl rfl rfl rfl rfl rfl rfl rfl (src_o rfl rfl) (by first|omega|(simp;omega)) rfl fun u131=>?_);refine gX G_ [14,15] 1 ?_;refine vtp 16 rfl (by kernel_rfl) (by kernel_rfl) (Iv_ G_ rfl rfl rfl rfl rfl rfl rfl rfl rfl ?_);refine vD ?_;refine gx G_ 8 ?_;refine inlr rfl rfl rfl trivial ?_;refine gx G_ 6 ?_;refine inlr rfl rfl rfl trivial ?_;refine gx G_ 9 ?_;refine cN e127 (fun p134 e135=>?_) (fun p138 e139=>?_)
      · refine gmy G_ 17 [] fun _=>?_;subst e135;exact rt3 rfl rfl (Dk_ (A_ (Dt_ (A_ (ple rfl) (A_ (ple rfl) (A_ L_ (A_ L_ (A_ L_ S_)))))) (A_ (ple rfl) (A_ (ple rfl) S_))))
      refine gy G_ 7 ?_;refine next ⟨(k+1),work,give_,(places++[(⟨(gt r 1),r4.1,r5.1,r6.1⟩:Q_)]),slots,grants,(u131),(u_slots),(u_grants)⟩ rfl rfl ⟨rfl,trivial⟩ ⟨rfl,rfl,rfl,rfl,trivial⟩ ?_ ?_
      · (try simp only[]);omega
      exact⟨by (try simp only[]);omega,e139,⟨(by (try simp only[List.length_append,List.length_cons,List.length_nil]);omega),(by (try simp only[List.length_append,List.length_cons,List.length_nil]);omega),(by (try simp only[List.length_append,List.length_cons,List.length_nil]);omega)⟩⟩
    have p140:=df h24;refine gx G_ 6 ?_;refine cD e141 (fun p143 e144=>?_) (fun p254 e255=>?_)
    · refine gx G_ 14 ?_;refine cN e144 (fun p147 e148=>?_) (fun p151 e152=>?_)
      · refine gx G_ 7 ?_;refine inlr rfl rfl rfl trivial ?_;refine gx G_ 9 ?_;refine cndT rfl (by decide) ?_;refine gmy G_ 17 [] fun _=>?_;subst e148;exact rt3 rfl rfl (Dk_ (A_ (Dt_ (A_ (ple rfl) (A_ (ple rfl) (A_ L_ (A_ L_ (A_ L_ S_)))))) (A_ (ple rfl) (A_ (ple rfl) S_))))
      refine gx G_ 11 ?_;refine q1 (qidx G_ 0 rfl rfl rfl hc22 rfl rfl rfl rfl) rfl fun w153=>?_;refine gx G_ 10 ?_;refine cD e152 (fun p155 e156=>?_) (fun p171 e172=>?_)
      · have hc157:=getG (xs:=r) (k:=1) (by omega);have hz_hc157:=hpw (gt r 1) (List.mem_of_getElem? hc157);refine gx G_ 3 ?_;refine q1 (qidx G_ 1 rfl rfl rfl hc157 rfl rfl rfl rfl) rfl fun w158=>?_;refine gx G_ 1 ?_;refine cV e156 R27_ (C7_ _) rfl fun r7 hr159 e161 w160=>?_;refine gm G_ 17 [] fun _=>?_;refine inlr rfl rfl rfl trivial ?_;refine gx G_ 9 ?_;refine cN e161 (fun p165 e166=>?_) (fun p169 e170=>?_)
        · refine gmy G_ 17 [] fun _=>?_;subst e166;exact rt3 rfl rfl (Dk_ (A_ (Dt_ (A_ (ple rfl) (A_ (ple rfl) (A_ L_ (A_ L_ (A_ L_ S_)))))) (A_ (ple rfl) (A_ (ple rfl) S_))))
        refine gy G_ 7 ?_;refine next ⟨(k+1),r7.1,give_,places,slots,grants,(u_places),(u_slots),(u_grants)⟩ rfl rfl ⟨rfl,trivial⟩ ⟨rfl,rfl,rfl,rfl,trivial⟩ ?_ ?_
        · (try simp only[]);omega
        exact⟨by (try simp only[]);omega,e170,⟨(by (try simp only[List.length_append,List.length_cons,List.length_nil]);omega),(by (try simp only[List.length_append,List.length_cons,List.length_nil]);omega),(by (try simp only[List.length_append,List.length_cons,List.length_nil]);omega)⟩⟩
      refine gx G_ 6 ?_;refine cD e172 (fun p174 e175=>?_) (fun p190 e191=>?_)
      · have hc176:=getG (xs:=r) (k:=1) (by omega);have hz_hc176:=hpw (gt r 1) (List.mem_of_getElem? hc176);refine gx G_ 3 ?_;refine q1 (qidx G_ 1 rfl rfl rfl hc176 rfl rfl rfl rfl) rfl fun w177=>?_;refine gx G_ 1 ?_;refine cV e175 R27_ (C7_ _) rfl fun r8 hr178 e180 w179=>?_;refine gm G_ 17 [] fun _=>?_;refine inlr rfl rfl rfl trivial ?_;refine gx G_ 9 ?_;refine cN e180 (fun p184 e185=>?_) (fun p188 e189=>?_)
        · refine gmy G_ 17 [] fun _=>?_;subst e185;exact rt3 rfl rfl (Dk_ (A_ (Dt_ (A_ (ple rfl) (A_ (ple rfl) (A_ L_ (A_ L_ (A_ L_ S_)))))) (A_ (ple rfl) (A_ (ple rfl) S_))))
        refine gy G_ 7 ?_;refine next ⟨(k+1),work,r8.1,places,slots,grants,(u_places),(u_slots),(u_grants)⟩ rfl rfl ⟨rfl,trivial⟩ ⟨rfl,rfl,rfl,rfl,trivial⟩ ?_ ?_
        · (try simp only[]);omega
        exact⟨by (try simp only[]);omega,e189,⟨(by (try simp only[List.length_append,List.length_cons,List.length_nil]);omega),(by (try simp only[List.length_append,List.length_cons,List.length_nil]);omega),(by (try simp only[List.length_append,List.length_cons,List.length_nil]);omega)⟩⟩
      refine gx G_ 6 ?_;refine cD e191 (fun p193 e194=>?_) (fun p210 e211=>?_)
      · refine gx G_ 6 ?_;refine aN [5,6,7,8,9,10] 12 mixd ?_;refine gX G_ [0,1,2,3] 8 ?_;have hc195:=getG (xs:=r) (k:=1) (by omega);have hz_hc195:=hpw (gt r 1) (List.mem_of_getElem? hc195);refine vq 4 (qidx G_ 1 rfl rfl rfl hc195 rfl rfl rfl rfl) rfl (by kernel_rfl) rfl fun w196=>?_;refine gX G_ [5] 6 ?_;refine vE 6 rfl (Q1_ (Cx_ (⟨work,give_,places,slots,grants⟩:D_) _) rfl rfl (.agg (.same _ (.same _ (.lend 2 rfl (.lend 3 rfl (.lend 4 rfl .nil))))) (.same _ .nil)) rfl ?_);generalize hr198:Ac_ (⟨work,give_,places,slots,grants⟩:D_) (gt r 1)=r9;intro w197;have e199:=e194.trans (F1_ hr198.symm);refine gX G_ [7,8,9,10,11] 0 ?_;refine vD ?_;refine gx G_ 8 ?_;refine ef (bsl 5 i64c [r9.1] G_ rfl rfl rfl rfl rfl (fun _=>rfl) rfl (by decide) (by decide) rfl fun u200=>?_);refine ef (app G_ [r9.1] rfl rfl rfl rfl rfl rfl rfl rfl rfl (src_o rfl rfl) (by first|omega|(simp;omega)) rfl fun u201=>?_);refine gx G_ 2 ?_;refine ef (Iv_ G_ rfl rfl rfl rfl rfl rfl rfl rfl rfl ?_);refine gx G_ 10 ?_;refine inlr rfl rfl rfl trivial ?_;refine gx G_ 9 ?_;refine cN e199 (fun p204 e205=>?_) (fun p208 e209=>?_)
        · refine gmy G_ 17 [] fun _=>?_;subst e205;exact rt3 rfl rfl (Dk_ (A_ (Dt_ (A_ (ple rfl) (A_ (ple rfl) (A_ L_ (A_ L_ (A_ L_ S_)))))) (A_ (ple rfl) (A_ (ple rfl) S_))))
        refine gy G_ 7 ?_;refine next ⟨(k+1),work,give_,places,(slots++[r9.1]),grants,(u_places),(u201),(u_grants)⟩ rfl rfl ⟨rfl,trivial⟩ ⟨rfl,rfl,rfl,rfl,trivial⟩ ?_ ?_
        · (try simp only[]);omega
        exact⟨by (try simp only[]);omega,e209,⟨(by (try simp only[List.length_append,List.length_cons,List.length_nil]);omega),(by (try simp only[List.length_append,List.length_cons,List.length_nil]);omega),(by (try simp only[List.length_append,List.length_cons,List.length_nil]);omega)⟩⟩
      refine gx G_ 6 ?_;refine cndF rfl h24 ?_;refine gx G_ 4 ?_;refine hinl [] G_ Tryz.func300 rfl Tryz.ntmps300 cb300 rfl rfl rfl rfl fun Hc212 hHc212=>?_;refine gx G_ 6 ?_;refine aN [5,6,7,8,9,10] 12 mixd ?_;refine gX G_ [0,1,2,3] 8 ?_;have hc213:=getG (xs:=r) (k:=1) (by omega);have hz_hc213:=hpw (gt r 1) (List.mem_of_getElem? hc213);refine vq 4 (qidx G_ 1 rfl rfl rfl hc213 rfl rfl rfl rfl) rfl (by kernel_rfl) rfl fun w214=>?_;refine gX G_ [5] 6 ?_;refine vE 6 rfl (Q1_ (Cx_ (⟨work,give_,places,slots,grants⟩:D_) _) rfl rfl (.agg (.same _ (.same _ (.lend 2 rfl (.lend 3 rfl (.lend 4 rfl .nil))))) (.same _ .nil)) rfl ?_);generalize hr216:Ac_ (⟨work,give_,places,slots,grants⟩:D_) (gt r 1)=r10;intro w215;have e217:=e211.trans (F1_ hr216.symm);refine gX G_ [7,8,9,10,11] 0 ?_;refine vD ?_;refine gx G_ 8 ?_;refine cE e217 (fun h218 e221=>?_) (fun h218 e225=>?_)
      · have h219:=Cg_ h218;have p220:=df h219;refine gx G_ 8 ?_;refine inlr rfl rfl rfl trivial ?_;refine gx G_ 6 ?_;refine inlr rfl rfl rfl trivial ?_;refine gx G_ 9 ?_;refine cndT rfl h218 ?_;refine gmy G_ 17 [] fun _=>?_;subst e221;exact rt3 rfl rfl (Dk_ (A_ (Dt_ (A_ (ple rfl) (A_ (ple rfl) (A_ L_ (A_ L_ (A_ L_ S_)))))) (A_ (ple rfl) (A_ (ple rfl) S_))))
      have h223:=Cf_ h218;have p224:=dt h223;refine gx G_ 3 ?_;refine aN [5,6,7,8,9,10] 12 mixd ?_;refine gX G_ [0,1,2,3] 8 ?_;have hc226:=getG (xs:=r) (k:=2) (by omega);have hz_hc226:=hpw (gt r 2) (List.mem_of_getElem? hc226);refine vq 4 (qidx G_ 2 rfl rfl rfl hc226 rfl rfl rfl rfl) rfl (by kernel_rfl) rfl fun w227=>?_;refine gX G_ [5] 6 ?_;refine vE 6 rfl (Q1_ (Cx_ (⟨work,give_,places,slots,grants⟩:D_) _) rfl rfl (.agg (.same _ (.same _ (.lend 2 rfl (.lend 3 rfl (.lend 4 rfl .nil))))) (.same _ .nil)) rfl ?_);generalize hr229:Ac_ (⟨work,give_,places,slots,grants⟩:D_) (gt r 2)=r11;intro w228;have e230:=e225.trans (F1_ hr229.symm);refine gX G_ [7,8,9,10,11] 0 ?_;refine vD ?_;refine gx G_ 8 ?_;refine cE e230 (fun h231 e234=>?_) (fun h231 e238=>?_)
      · have h232:=Cg_ h231;have p233:=df h232;refine gx G_ 8 ?_;refine inlr rfl rfl rfl trivial ?_;refine gx G_ 6 ?_;refine inlr rfl rfl rfl trivial ?_;refine gx G_ 9 ?_;refine cndT rfl h231 ?_;refine gmy G_ 17 [] fun _=>?_;subst e234;exact rt3 rfl rfl (Dk_ (A_ (Dt_ (A_ (ple rfl) (A_ (ple rfl) (A_ L_ (A_ L_ (A_ L_ S_)))))) (A_ (ple rfl) (A_ (ple rfl) S_))))
      have h236:=Cf_ h231;have p237:=dt h236;have hc239:=getG (xs:=r) (k:=3) (by omega);have hz_hc239:=hpw (gt r 3) (List.mem_of_getElem? hc239);refine gx G_ 5 ?_;refine q1 (qidx G_ 3 rfl rfl rfl hc239 rfl rfl rfl rfl) rfl fun w240=>?_;refine gx G_ 1 ?_;refine cV e238 R27_ (C7_ _) rfl fun r12 hr241 e243 w242=>?_;refine gx G_ 18 ?_;refine ef (bsl 5 Ap_.pc [(⟨r10.1,r11.1,r12.1⟩:Ap_)] G_ rfl rfl rfl rfl rfl (fun _=>rfl) rfl (by decide) (by decide) rfl fun u244=>?_);refine ef (app G_ [(⟨r10.1,r11.1,r12.1⟩:Ap_)] rfl rfl rfl rfl rfl rfl rfl rfl rfl (src_o rfl rfl) (by first|omega|(simp;omega)) rfl fun u245=>?_);refine gx G_ 2 ?_;refine ef (Iv_ G_ rfl rfl rfl rfl rfl rfl rfl rfl rfl ?_);refine gx G_ 9 ?_;refine inlr rfl rfl rfl trivial ?_;refine gx G_ 6 ?_;refine inlr rfl rfl rfl trivial ?_;refine gx G_ 9 ?_;refine cN e243 (fun p248 e249=>?_) (fun p252 e253=>?_)
      · refine gmy G_ 17 [] fun _=>?_;subst e249;exact rt3 rfl rfl (Dk_ (A_ (Dt_ (A_ (ple rfl) (A_ (ple rfl) (A_ L_ (A_ L_ (A_ L_ S_)))))) (A_ (ple rfl) (A_ (ple rfl) S_))))
      refine gy G_ 7 ?_;refine next ⟨(k+1),work,give_,places,slots,(grants++[(⟨r10.1,r11.1,r12.1⟩:Ap_)]),(u_places),(u_slots),(u245)⟩ rfl rfl ⟨rfl,trivial⟩ ⟨rfl,rfl,rfl,rfl,trivial⟩ ?_ ?_
      · (try simp only[]);omega
      exact⟨by (try simp only[]);omega,e253,⟨(by (try simp only[List.length_append,List.length_cons,List.length_nil]);omega),(by (try simp only[List.length_append,List.length_cons,List.length_nil]);omega),(by (try simp only[List.length_append,List.length_cons,List.length_nil]);omega)⟩⟩
    refine gx G_ 7 ?_;refine cE e255 (fun h256 e258=>?_) (fun h256 e283=>?_)
    · have p257:=dt h256;refine gx G_ 2 ?_;refine cndT rfl h256 ?_;refine gx G_ 12 ?_;refine cN e258 (fun p261 e262=>?_) (fun p265 e266=>?_)
      · refine gx G_ 7 ?_;refine inlr rfl rfl rfl trivial ?_;refine gx G_ 9 ?_;refine cndT rfl (by decide) ?_;refine gmy G_ 17 [] fun _=>?_;subst e262;exact rt3 rfl rfl (Dk_ (A_ (Dt_ (A_ (ple rfl) (A_ (ple rfl) (A_ L_ (A_ L_ (A_ L_ S_)))))) (A_ (ple rfl) (A_ (ple rfl) S_))))
      refine gx G_ 11 ?_;refine q1 (qidx G_ 0 rfl rfl rfl hc22 rfl rfl rfl rfl) rfl fun w267=>?_;refine gx G_ 10 ?_;refine cndT rfl h256 ?_;have hc268:=getG (xs:=r) (k:=1) (by omega);have hz_hc268:=hpw (gt r 1) (List.mem_of_getElem? hc268);refine gx G_ 3 ?_;refine q1 (qidx G_ 1 rfl rfl rfl hc268 rfl rfl rfl rfl) rfl fun w269=>?_;refine gx G_ 1 ?_;refine cV e266 R27_ (C7_ _) rfl fun r13 hr270 e272 w271=>?_;refine gm G_ 17 [] fun _=>?_;refine inlr rfl rfl rfl trivial ?_;refine gx G_ 9 ?_;refine cN e272 (fun p276 e277=>?_) (fun p280 e281=>?_)
      · refine gmy G_ 17 [] fun _=>?_;subst e277;exact rt3 rfl rfl (Dk_ (A_ (Dt_ (A_ (ple rfl) (A_ (ple rfl) (A_ L_ (A_ L_ (A_ L_ S_)))))) (A_ (ple rfl) (A_ (ple rfl) S_))))
      refine gy G_ 7 ?_;refine next ⟨(k+1),r13.1,give_,places,slots,grants,(u_places),(u_slots),(u_grants)⟩ rfl rfl ⟨rfl,trivial⟩ ⟨rfl,rfl,rfl,rfl,trivial⟩ ?_ ?_
      · (try simp only[]);omega
      exact⟨by (try simp only[]);omega,e281,⟨(by (try simp only[List.length_append,List.length_cons,List.length_nil]);omega),(by (try simp only[List.length_append,List.length_cons,List.length_nil]);omega),(by (try simp only[List.length_append,List.length_cons,List.length_nil]);omega)⟩⟩
    have p282:=df h256;refine gx G_ 6 ?_;refine cE e283 (fun h284 e286=>?_) (fun h284 e311=>?_)
    · have p285:=dt h284;refine gx G_ 2 ?_;refine cndT rfl h284 ?_;refine gx G_ 12 ?_;refine cN e286 (fun p289 e290=>?_) (fun p293 e294=>?_)
      · refine gx G_ 7 ?_;refine inlr rfl rfl rfl trivial ?_;refine gx G_ 9 ?_;refine cndT rfl (by decide) ?_;refine gmy G_ 17 [] fun _=>?_;subst e290;exact rt3 rfl rfl (Dk_ (A_ (Dt_ (A_ (ple rfl) (A_ (ple rfl) (A_ L_ (A_ L_ (A_ L_ S_)))))) (A_ (ple rfl) (A_ (ple rfl) S_))))
      refine gx G_ 11 ?_;refine q1 (qidx G_ 0 rfl rfl rfl hc22 rfl rfl rfl rfl) rfl fun w295=>?_;refine gx G_ 10 ?_;refine cndF rfl h256 ?_;refine gx G_ 6 ?_;refine cndT rfl h284 ?_;have hc296:=getG (xs:=r) (k:=1) (by omega);have hz_hc296:=hpw (gt r 1) (List.mem_of_getElem? hc296);refine gx G_ 3 ?_;refine q1 (qidx G_ 1 rfl rfl rfl hc296 rfl rfl rfl rfl) rfl fun w297=>?_;refine gx G_ 1 ?_;refine cV e294 R27_ (C7_ _) rfl fun r14 hr298 e300 w299=>?_;refine gm G_ 17 [] fun _=>?_;refine inlr rfl rfl rfl trivial ?_;refine gx G_ 9 ?_;refine cN e300 (fun p304 e305=>?_) (fun p308 e309=>?_)
      · refine gmy G_ 17 [] fun _=>?_;subst e305;exact rt3 rfl rfl (Dk_ (A_ (Dt_ (A_ (ple rfl) (A_ (ple rfl) (A_ L_ (A_ L_ (A_ L_ S_)))))) (A_ (ple rfl) (A_ (ple rfl) S_))))
      refine gy G_ 7 ?_;refine next ⟨(k+1),work,r14.1,places,slots,grants,(u_places),(u_slots),(u_grants)⟩ rfl rfl ⟨rfl,trivial⟩ ⟨rfl,rfl,rfl,rfl,trivial⟩ ?_ ?_
      · (try simp only[]);omega
      exact⟨by (try simp only[]);omega,e309,⟨(by (try simp only[List.length_append,List.length_cons,List.length_nil]);omega),(by (try simp only[List.length_append,List.length_cons,List.length_nil]);omega),(by (try simp only[List.length_append,List.length_cons,List.length_nil]);omega)⟩⟩
    have p310:=df h284;refine gx G_ 5 ?_;refine cE e311 (fun h312 e314=>?_) (fun h312 e340=>?_)
    · have p313:=dt h312;refine gx G_ 12 ?_;refine cN e314 (fun p317 e318=>?_) (fun p321 e322=>?_)
      · refine gx G_ 7 ?_;refine inlr rfl rfl rfl trivial ?_;refine gx G_ 9 ?_;refine cndT rfl (by decide) ?_;refine gmy G_ 17 [] fun _=>?_;subst e318;exact rt3 rfl rfl (Dk_ (A_ (Dt_ (A_ (ple rfl) (A_ (ple rfl) (A_ L_ (A_ L_ (A_ L_ S_)))))) (A_ (ple rfl) (A_ (ple rfl) S_))))
      refine gx G_ 11 ?_;refine q1 (qidx G_ 0 rfl rfl rfl hc22 rfl rfl rfl rfl) rfl fun w323=>?_;refine gx G_ 10 ?_;refine cndF rfl h256 ?_;refine gx G_ 6 ?_;refine cndF rfl h284 ?_;refine gx G_ 6 ?_;refine cndT rfl h312 ?_;refine gx G_ 6 ?_;refine aN [5,6,7,8,9,10] 12 mixd ?_;refine gX G_ [0,1,2,3] 8 ?_;have hc324:=getG (xs:=r) (k:=1) (by omega);have hz_hc324:=hpw (gt r 1) (List.mem_of_getElem? hc324);refine vq 4 (qidx G_ 1 rfl rfl rfl hc324 rfl rfl rfl rfl) rfl (by kernel_rfl) rfl fun w325=>?_;refine gX G_ [5] 6 ?_;refine vE 6 rfl (Q1_ (Cx_ (⟨work,give_,places,slots,grants⟩:D_) _) rfl rfl (.agg (.same _ (.same _ (.lend 2 rfl (.lend 3 rfl (.lend 4 rfl .nil))))) (.same _ .nil)) rfl ?_);generalize hr327:Ac_ (⟨work,give_,places,slots,grants⟩:D_) (gt r 1)=r15;intro w326;have e328:=e322.trans (F1_ hr327.symm);refine gX G_ [7,8,9,10,11] 0 ?_;refine vD ?_;refine gx G_ 8 ?_;refine ef (bsl 5 i64c [r15.1] G_ rfl rfl rfl rfl rfl (fun _=>rfl) rfl (by decide) (by decide) rfl fun u329=>?_);refine ef (app G_ [r15.1] rfl rfl rfl rfl rfl rfl rfl rfl rfl (src_o rfl rfl) (by first|omega|(simp;omega)) rfl fun u330=>?_);refine gx G_ 2 ?_;refine ef (Iv_ G_ rfl rfl rfl rfl rfl rfl rfl rfl rfl ?_);refine gx G_ 10 ?_;refine inlr rfl rfl rfl trivial ?_;refine gx G_ 9 ?_;refine cN e328 (fun p333 e334=>?_) (fun p337 e338=>?_)
      · refine gmy G_ 17 [] fun _=>?_;subst e334;exact rt3 rfl rfl (Dk_ (A_ (Dt_ (A_ (ple rfl) (A_ (ple rfl) (A_ L_ (A_ L_ (A_ L_ S_)))))) (A_ (ple rfl) (A_ (ple rfl) S_))))
      refine gy G_ 7 ?_;refine next ⟨(k+1),work,give_,places,(slots++[r15.1]),grants,(u_places),(u330),(u_grants)⟩ rfl rfl ⟨rfl,trivial⟩ ⟨rfl,rfl,rfl,rfl,trivial⟩ ?_ ?_
      · (try simp only[]);omega
      exact⟨by (try simp only[]);omega,e338,⟨(by (try simp only[List.length_append,List.length_cons,List.length_nil]);omega),(by (try simp only[List.length_append,List.length_cons,List.length_nil]);omega),(by (try simp only[List.length_append,List.length_cons,List.length_nil]);omega)⟩⟩
    have p339:=df h312;refine gx G_ 8 ?_;refine inlr rfl rfl rfl trivial ?_;refine gx G_ 9 ?_;refine cndT rfl (by decide) ?_;refine gmy G_ 17 [] fun _=>?_;subst e340;exact rt3 rfl rfl (Dk_ (A_ (Dt_ (A_ (ple rfl) (A_ (ple rfl) (A_ L_ (A_ L_ (A_ L_ S_)))))) (A_ (ple rfl) (A_ (ple rfl) S_))))
  have p342:=df h6;have e343:=Dq_ (f:=fun zz=>Ah_ zz k work give_ places slots grants) hp5_2 (G0_ (by omega)) (Ah_.eq_1 _ _ _ _ _ _);refine gx G_ 8 ?_;refine give 2 rfl ?_;refine give 3 rfl ?_;refine give 4 rfl ?_;refine gx G_ 1 ?_;refine cV e343 R0_ (I0_ (⟨work,give_,places,slots,grants⟩:D_)) rfl fun r16 hr344 e346 w345=>?_;refine gx G_ 9 ?_;refine cN e346 (fun p349 e350=>?_) (fun p353 e354=>?_)
  · refine gm G_ 11 [] fun _=>?_;subst e350;exact rt3 rfl rfl (Dk_ (A_ (Dt_ (A_ (ple rfl) (A_ (ple rfl) (A_ L_ (A_ L_ (A_ L_ S_)))))) (A_ (ple rfl) (A_ (ple rfl) S_))))
  refine gm G_ 11 [] fun _=>?_;subst e354;exact qr3
abbrev R29_:(D_×Int×Int)->PV:=fun r=> .tup [.agg (D_.pc r.1), .int .i64 r.2.1, .int .i64 r.2.2]
abbrev R30_:(NoteR×Bool)->PV:=fun r=> .tup [.agg (NoteR.pc r.1), .bool r.2]
abbrev R31_:(RiseR×Int)->PV:=fun r=> .tup [.agg (RiseR.pc r.1), .int .i64 r.2]
abbrev R32_:(Int×Mail×Bool)->PV:=fun r=> .tup [.int .u64 r.1, .agg (Mail.pc r.2.1), .bool r.2.2]
def tbv125:Tb:=[(3,ty3),(5,ty5),(22,ty22),(26,ty26),(36,ty36),(40,ty40),(43,ty43),(46,ty46),(60,ty60),(65,ty65),(75,ty75),(92,ty92),(94,ty94),(102,Wo_),(160,ty160)]
theorem Bf_:tbB Tryz.prog tbv125=true:=by kernel_rfl
theorem Rg_:Fn Tryz.prog gb 250 [] (.bool (Na_)):=by
  refine fC Tryz.func250 Bf_ Tryz.ntmps250 fun w N H hG=>?_;have e0:=Na_.eq_1;refine gx Bf_ 7 ?_;refine cV e0 R28_ (Fl_ _) rfl fun r hr1 e3 w2=>?_;refine gm Bf_ 10 [0] fun B5=>?_;refine cV e3 R28_ (Fl_ _) rfl fun r1 hr6 e8 w7=>?_;refine gm Bf_ 10 [1] fun B10=>?_;refine cV e8 R28_ (Fl_ _) rfl fun r2 hr11 e13 w12=>?_;refine gm Bf_ 10 [2] fun B15=>?_;refine call M8_ rfl rfl fun w16=>?_;refine gx Bf_ 1 ?_;refine ungd rfl rfl ?_;refine gx Bf_ 1 ?_;refine ungd rfl rfl ?_;refine gy Bf_ 13 ?_;refine callg rfl (fun hc=>(Em_ _ _)) rfl ⟨(fun hc=>hc),(fun hc=>hc),trivial⟩ rfl rfl fun _=>?_;refine gy Bf_ 4 ?_;refine callg rfl (fun hc=>(Em_ _ _)) rfl ⟨(fun hc=>hc),(fun hc=>hc),trivial⟩ rfl rfl fun _=>?_;refine gy Bf_ 5 ?_;refine callg rfl (fun hc=>(Em_ _ _)) rfl ⟨(fun hc=>hc),(fun hc=>hc),trivial⟩ rfl rfl fun _=>?_;refine gy Bf_ 6 ?_;exact rt1 rfl rfl (Aa_ (fun r:Bool=> .bool r) e13 (ple rfl))
theorem Rf_:Fn Tryz.prog gb 180 [] (.bool (M9_)):=by
  refine fC Tryz.func180 Bf_ Tryz.ntmps180 fun w N H hG=>?_;have e0:=M9_.eq_1;refine gx Bf_ 7 ?_;refine call Rg_ rfl rfl fun w1=>?_;refine gx Bf_ 4 ?_;exact rt1 rfl rfl (Aa_ (fun r:Bool=> .bool r) e0 (ple rfl))
theorem Rk_:Fn Tryz.prog gb 101 [] (.bool (Nc_)):=by
  refine fC Tryz.func101 Bf_ Tryz.ntmps101 fun w N H hG=>?_;have e0:=Nc_.eq_1;refine gx Bf_ 7 ?_;refine cV e0 R29_ (N0_ _ (hs:=by exact plen05)) rfl fun r hr1 e3 w2=>?_;refine gm Bf_ 12 [0] fun B5=>?_;refine call Rf_ rfl rfl fun w6=>?_;refine gx Bf_ 1 ?_;refine callg rfl (fun hc=>I6_) rfl trivial rfl rfl fun _=>?_;refine gy Bf_ 23 ?_;refine q1g [34] rfl (fun hc=>qidx Bf_ 0 rfl rfl rfl (getG (by first|omega|(simp only[gOf,bl2] at *;omega))) rfl rfl rfl rfl) ⟨(fun hc=>hc),trivial⟩ rfl rfl rfl fun _=>?_;refine gy Bf_ 8 ?_;exact rt1 rfl rfl (Aa_ (fun r:Bool=> .bool r) e3 (ple rfl))
theorem Rh_:Fn Tryz.prog gb 41 [] (.bool (Nb_)):=by
  refine fC Tryz.func41 Bf_ Tryz.ntmps41 fun w N H hG=>?_;have e0:=Nb_.eq_1;refine gx Bf_ 7 ?_;refine call Rk_ rfl rfl fun w1=>?_;refine gx Bf_ 4 ?_;exact rt1 rfl rfl (Aa_ (fun r:Bool=> .bool r) e0 (ple rfl))
theorem Rn_:Fn Tryz.prog gb 254 [] (.bool (Nf_)):=by
  refine fC Tryz.func254 Bf_ Tryz.ntmps254 fun w N H hG=>?_;have e0:=Nf_.eq_1;refine gx Bf_ 9 ?_;refine cV e0 R2_ (Gt_ (⟨[]⟩:LineR) (⟨3,[97],[],[],[],0,0⟩:Mail) (hh:=by first|omega|decide)) rfl fun r hr1 e3 w2=>?_;have hA3:=P4_ (l:=(⟨[]⟩:LineR)) (m:=(⟨3,[97],[],[],[],0,0⟩:Mail)) (by first|assumption|exact K4_) (by decide)
  (try rw[<- hr1] at hA3)
  refine gm Bf_ 12 [0] fun B6=>?_;refine cV e3 R2_ (Gt_ _ (⟨5,[97],[],[],[],0,0⟩:Mail) (hh:=by first|omega|decide)) rfl fun r1 hr7 e9 w8=>?_;have hA9:=P4_ (l:=r.1) (m:=(⟨5,[97],[],[],[],0,0⟩:Mail)) (by first|assumption|exact K4_) (by decide)
  (try rw[<- hr7] at hA9)
  refine gm Bf_ 10 [] fun _=>?_;refine cV e9 R7_ (F7_ _) rfl fun r2 hr12 e14 w13=>?_
  (try have hA14:=Mj_ (l:=r1.1) (by assumption);(try rw[<- hr12] at hA14);obtain⟨hA14_0,hA14_1⟩:=hA14)
  refine gm Bf_ 13 [1] fun B17=>?_;refine cV e14 R7_ (F7_ _) rfl fun r3 hr18 e20 w19=>?_
  (try have hA20:=Mj_ (l:=r2.1) (by assumption);(try rw[<- hr18] at hA20);obtain⟨hA20_0,hA20_1⟩:=hA20)
  refine gm Bf_ 13 [2] fun B23=>?_;refine cV e20 R2_ (If_ _ _) rfl fun r4 hr24 e26 w25=>?_;have hA26:=P5_ (l:=r3.1) (id:=3) (by assumption)
  (try rw[<- hr24] at hA26)
  refine gm Bf_ 10 [] fun _=>?_;refine cV e26 R4_ (Hu_ _) rfl fun r5 hr29 e31 w30=>?_;refine gm Bf_ 10 [3] fun B33=>?_;refine call Nd_ rfl rfl fun w34=>?_;refine gx Bf_ 1 ?_;refine ungd rfl rfl ?_;refine gx Bf_ 1 ?_;refine ungd rfl rfl ?_;refine gy Bf_ 40 ?_;exact rt1 rfl rfl (Aa_ (fun r:Bool=> .bool r) e31 (ple rfl))
theorem Rm_:Fn Tryz.prog gb 183 [] (.bool (Ne_)):=by
  refine fC Tryz.func183 Bf_ Tryz.ntmps183 fun w N H hG=>?_;have e0:=Ne_.eq_1;refine gx Bf_ 7 ?_;refine call Rn_ rfl rfl fun w1=>?_;refine gx Bf_ 4 ?_;exact rt1 rfl rfl (Aa_ (fun r:Bool=> .bool r) e0 (ple rfl))
theorem Rp_:Fn Tryz.prog gb 104 [] (.bool (Ky_)):=by
  refine fC Tryz.func104 Bf_ Tryz.ntmps104 fun w N H hG=>?_;have e0:=Ky_.eq_1;refine gm Bf_ 17 [0] fun B2=>?_;refine loop (ι:=Nat×Nat×Cw_) [0,1] [] (fun ⟨f,v,x⟩=>[(7, .int .i64 (v:Int))]) (fun ⟨f,v,x⟩=>[(0, .box (B2 0) 46 (Cw_.pc x))]) (fun ⟨f,v,x⟩=>40-v<f/\Ky_=Hr_ f v x/\x.kept.length<=32) (fun ⟨f,v,x⟩=>f) ⟨(40-0+1),0,(⟨0,[]⟩:Cw_)⟩ ⟨rfl,trivial⟩ ⟨rfl,trivial⟩ ?_ ?_
  · exact⟨Nat.lt_succ_self _,e0,by decide⟩
  rintro⟨f,v,x⟩ ⟨hp3_1,hp3_2,hp3_3⟩;obtain⟨f1,rfl⟩:∃ q,f=q+1:=⟨f-1,by omega⟩;have e_f1:=hp3_2.trans (Hr_.eq_2 _ _ _);refine gx Bf_ 6 ?_;refine cD e_f1 (fun p5 e6=>?_) (fun p12 e13=>?_)
  · refine gx Bf_ 15 ?_;refine cV e6 R9_ (Fy_ _ (⟨0,(IntKind.wrap .u8 (v:Int)),[]⟩:NoteR)) rfl fun r hr7 e9 w8=>?_;have hA9:=Qb_ (n:=x) (x:=(⟨0,(IntKind.wrap .u8 (v:Int)),[]⟩:NoteR)) (by assumption)
    (try rw[<- hr7] at hA9)
    refine gmy Bf_ 11 [] fun _=>?_;refine next ⟨f1,(v+1),r.1⟩ rfl rfl ⟨rfl,trivial⟩ ⟨rfl,trivial⟩ ?_ ?_
    · (try simp only[]);omega
    exact⟨by (try simp only[]);omega,e9,by assumption⟩
  refine gx Bf_ 8 ?_;refine cV e13 R30_ (Hw_ _ _) rfl fun r1 hr14 e16 w15=>?_;refine gm Bf_ 11 [1] fun B18=>?_;refine cV e16 R30_ (Hw_ _ _) rfl fun r2 hr19 e21 w20=>?_;refine gm Bf_ 10 [2] fun B23=>?_;refine call M8_ rfl rfl fun w24=>?_;refine gx Bf_ 1 ?_;refine ungd rfl rfl ?_;refine gy Bf_ 13 ?_;refine callg rfl (fun hc=>(Gw_ _)) rfl ⟨(fun hc=>hc),trivial⟩ rfl rfl fun _=>?_;refine gy Bf_ 6 ?_;exact rt1 rfl rfl (Aa_ (fun r:Bool=> .bool r) e21 (ple rfl))
theorem Ro_:Fn Tryz.prog gb 44 [] (.bool (Ng_)):=by
  refine fC Tryz.func44 Bf_ Tryz.ntmps44 fun w N H hG=>?_;have e0:=Ng_.eq_1;refine gx Bf_ 7 ?_;refine call Rp_ rfl rfl fun w1=>?_;refine gx Bf_ 4 ?_;exact rt1 rfl rfl (Aa_ (fun r:Bool=> .bool r) e0 (ple rfl))
theorem Rr_:Fn Tryz.prog gb 255 [] (.bool (Kz_)):=by
  refine fC Tryz.func255 Bf_ Tryz.ntmps255 fun w N H hG=>?_;have e0:=Kz_.eq_1;refine gm Bf_ 17 [0] fun B2=>?_;refine loop (ι:=Nat×Nat×RiseR) [0,1] [] (fun ⟨f,v,x⟩=>[(8, .int .i64 (v:Int))]) (fun ⟨f,v,x⟩=>[(0, .box (B2 0) 40 (RiseR.pc x))]) (fun ⟨f,v,x⟩=>20-v<f/\Kz_=Hs_ f v x/\RiOk x/\(x.total=0\/0<x.kept.length)) (fun ⟨f,v,x⟩=>f) ⟨(20-0+1),0,(⟨0,[]⟩:RiseR)⟩ ⟨rfl,trivial⟩ ⟨rfl,trivial⟩ ?_ ?_
  · exact⟨Nat.lt_succ_self _,e0,⟨Vh_, .inl rfl⟩⟩
  rintro⟨f,v,x⟩ ⟨hp3_1,hp3_2,hp3_3⟩;obtain⟨hi1,hi2⟩:=hp3_3;obtain⟨f1,rfl⟩:∃ q,f=q+1:=⟨f-1,by omega⟩;have e_f1:=hp3_2.trans (Hs_.eq_2 _ _ _);refine gx Bf_ 6 ?_;refine cD e_f1 (fun p5 e6=>?_) (fun p13 e14=>?_)
  · refine gx Bf_ 7 ?_;refine cV e6 R31_ (Fm_ _ (⟨0,[97],[],[],[],0,0⟩:Mail) (hh:=by first|omega|decide)) rfl fun r hr7 e9 w8=>?_;have hA9:=T3_ (x:=x) (m:=(⟨0,[97],[],[],[],0,0⟩:Mail)) (by assumption)
    (try rw[<- hr7] at hA9)
    have hA10:=rput_ne (x:=x) (m:=(⟨0,[97],[],[],[],0,0⟩:Mail)) (by assumption)
    (try rw[<- hr7] at hA10)
    refine gmy Bf_ 11 [] fun _=>?_;refine next ⟨f1,(v+1),r.1⟩ rfl rfl ⟨rfl,trivial⟩ ⟨rfl,trivial⟩ ?_ ?_
    · (try simp only[]);omega
    exact⟨by (try simp only[]);omega,e9,⟨by assumption,by assumption⟩⟩
  refine gx Bf_ 8 ?_;refine cV e14 R32_ (Hz_ _ _) rfl fun r1 hr15 e17 w16=>?_;refine gm Bf_ 13 [1] fun B19=>?_;refine cV e17 R32_ (Hz_ _ _) rfl fun r2 hr20 e22 w21=>?_;refine gm Bf_ 12 [2] fun B24=>?_;refine call Nd_ rfl rfl fun w25=>?_;refine gx Bf_ 1 ?_;refine ungd rfl rfl ?_;refine gx Bf_ 1 ?_;refine ungd rfl rfl ?_;refine gy Bf_ 13 ?_;exact rt1 rfl rfl (Aa_ (fun r:Bool=> .bool r) e22 (ple rfl))
theorem Rq_:Fn Tryz.prog gb 184 [] (.bool (Nh_)):=by
  refine fC Tryz.func184 Bf_ Tryz.ntmps184 fun w N H hG=>?_;have e0:=Nh_.eq_1;refine gx Bf_ 7 ?_;refine call Rr_ rfl rfl fun w1=>?_;refine gx Bf_ 4 ?_;exact rt1 rfl rfl (Aa_ (fun r:Bool=> .bool r) e0 (ple rfl))
theorem Rt_:Fn Tryz.prog gb 102 [] (.bool (Nj_)):=by
  refine fC Tryz.func102 Bf_ Tryz.ntmps102 fun w N H hG=>?_;have e0:=Nj_.eq_1;refine gx Bf_ 7 ?_;refine cV e0 R6_ (L8_ _ _) rfl fun r hr1 e3 w2=>?_;have hA3:=knew_ok 7 100 (by decide)
  (try rw[<- hr1] at hA3)
  refine gx Bf_ 1 ?_;refine cV e3 R11_ (Hm_ _ (⟨[113],3,0,[]⟩:E_)) rfl fun r1 hr5 e7 w6=>?_;have hA7:=P3_ (q:=(⟨[113],3,0,[]⟩:E_)) (s:=r) (by first|assumption|exact StOk.stk (by assumption))
  (try rw[<- hr5] at hA7)
  refine gm Bf_ 12 [0] fun B10=>?_;refine cV e7 R17_ (H2_ _ _ (⟨0,[97],[],[],[],0,0⟩:Mail) (hh:=by first|omega|decide)) rfl fun r2 hr11 e13 w12=>?_
  (try have hA13:=Tn_ (s:=r1.1) (n:=[113]) (m:=(⟨0,[97],[],[],[],0,0⟩:Mail)) (by first|assumption|exact StOk.stk (by assumption)) (by (try simp only[]);omega);(try rw[<- hr11] at hA13);obtain⟨hA13_0,hA13_1,hA13_2⟩:=hA13)
  refine gm Bf_ 15 [1,2] fun B16=>?_;refine call I6_ rfl rfl fun w18=>?_;refine gx Bf_ 1 ?_;refine ungd rfl rfl ?_;refine call Rm_ rfl rfl fun w19=>?_;refine gx Bf_ 2 ?_;refine callg rfl (fun hc=>Rq_) rfl trivial rfl rfl fun _=>?_;refine gy Bf_ 17 ?_;exact rt1 rfl rfl (Aa_ (fun r:Bool=> .bool r) e13 (ple rfl))
theorem Rs_:Fn Tryz.prog gb 42 [] (.bool (Ni_)):=by
  refine fC Tryz.func42 Bf_ Tryz.ntmps42 fun w N H hG=>?_;have e0:=Ni_.eq_1;refine gx Bf_ 7 ?_;refine call Rt_ rfl rfl fun w1=>?_;refine gx Bf_ 4 ?_;exact rt1 rfl rfl (Aa_ (fun r:Bool=> .bool r) e0 (ple rfl))
theorem cb22:Z_ Tryz.prog 22:=U_ Tryz.func22 (by kernel_rfl) (by kernel_rfl)
def tbv126:Tb:=[(3,ty3),(9,ty9),(22,ty22),(23,ty23),(26,ty26),(27,ty27),(54,ty54),(58,ty58),(60,ty60),(63,ty63),(65,ty65),(67,ty67),(75,ty75),(77,ty77),(94,ty94)]
theorem Ev_:tbB Tryz.prog tbv126=true:=by kernel_rfl
theorem Ru_:Fn Tryz.prog gb 9 [] (.bool (I7_)):=by
  refine fC Tryz.func9 Ev_ Tryz.ntmps9 fun w N H hG=>?_;have e0:=I7_.eq_1;refine gx Ev_ 7 ?_;refine hinl [] Ev_ Tryz.func22 rfl Tryz.ntmps22 cb22 rfl rfl rfl rfl fun Hc1 hHc1=>?_;refine gm Ev_ 8 [0] fun B3=>?_;refine ef (bsl 1 Q_.pc [(⟨[108,111,119],(⟨0,0⟩:Al_),500,1⟩:Q_)] Ev_ rfl rfl rfl rfl rfl (fun _=>rfl) rfl (by decide) (by decide) rfl fun u4=>?_);refine ef (bsl 2 i64c [0] Ev_ rfl rfl rfl rfl rfl (fun _=>rfl) rfl (by decide) (by decide) rfl fun u5=>?_);refine give 1 rfl ?_;refine give 2 rfl ?_;refine gm Ev_ 5 [] fun _=>?_;refine inlr rfl rfl rfl trivial ?_;refine cV e0 R21_ (L9_ (⟨4,1,[(⟨[108,111,119],(⟨0,0⟩:Al_),500,1⟩:Q_)],[0],[]⟩:D_) _ (hp:=by first|assumption|exact Ny_ (by decide +kernel)) (hk:=by first|omega|decide +kernel)) rfl fun r hr7 e9 w8=>?_;have hA9:=Zf_ (p:=(⟨4,1,[(⟨[108,111,119],(⟨0,0⟩:Al_),500,1⟩:Q_)],[0],[]⟩:D_)) (k:=0) (by first|assumption|exact Ny_ (by decide +kernel)) (by first|omega|(simp;done)|decide +kernel)
  (try rw[<- hr7] at hA9)
  refine gm Ev_ 13 [1] fun B12=>?_;refine ef (bsl 2 DeedR.pc [(⟨0,0,(⟨[97],1,[]⟩:ShopR),(⟨[],0,0,[]⟩:E_),(⟨[],[],false,[],[],false⟩:BindR),[],0,0,0,0,0,(⟨0,[],[],[],[],0,0⟩:Mail),[]⟩:DeedR),(⟨2,0,(⟨[],0,[]⟩:ShopR),(⟨[113],4,0,[]⟩:E_),(⟨[],[],false,[],[],false⟩:BindR),[],0,0,0,0,0,(⟨0,[],[],[],[],0,0⟩:Mail),[]⟩:DeedR),(⟨4,0,(⟨[],0,[]⟩:ShopR),(⟨[],0,0,[]⟩:E_),(⟨[97],[113],false,[],[],false⟩:BindR),[],0,0,0,0,0,(⟨0,[],[],[],[],0,0⟩:Mail),[]⟩:DeedR)] Ev_ rfl rfl rfl rfl rfl (fun _=>rfl) rfl (by decide) (by decide) rfl fun u13=>?_);refine gx Ev_ 5 ?_;refine givec 2 rfl ?_;refine loop (ι:=Nat×Nat×B_) [1,20,21] [0] (fun ⟨f,v,x⟩=>[(22, .int .i64 (v:Int))]) (fun ⟨f,v,x⟩=>[(1, .box (B12 0) 54 (B_.pc x))]) (fun ⟨f,v,x⟩=>([(⟨0,0,(⟨[97],1,[]⟩:ShopR),(⟨[],0,0,[]⟩:E_),(⟨[],[],false,[],[],false⟩:BindR),[],0,0,0,0,0,(⟨0,[],[],[],[],0,0⟩:Mail),[]⟩:DeedR),(⟨2,0,(⟨[],0,[]⟩:ShopR),(⟨[113],4,0,[]⟩:E_),(⟨[],[],false,[],[],false⟩:BindR),[],0,0,0,0,0,(⟨0,[],[],[],[],0,0⟩:Mail),[]⟩:DeedR),(⟨4,0,(⟨[],0,[]⟩:ShopR),(⟨[],0,0,[]⟩:E_),(⟨[97],[113],false,[],[],false⟩:BindR),[],0,0,0,0,0,(⟨0,[],[],[],[],0,0⟩:Mail),[]⟩:DeedR)].length)-v<f/\I7_=Ht_ f v x/\StOk x) (fun ⟨f,v,x⟩=>f) ⟨(([(⟨0,0,(⟨[97],1,[]⟩:ShopR),(⟨[],0,0,[]⟩:E_),(⟨[],[],false,[],[],false⟩:BindR),[],0,0,0,0,0,(⟨0,[],[],[],[],0,0⟩:Mail),[]⟩:DeedR),(⟨2,0,(⟨[],0,[]⟩:ShopR),(⟨[113],4,0,[]⟩:E_),(⟨[],[],false,[],[],false⟩:BindR),[],0,0,0,0,0,(⟨0,[],[],[],[],0,0⟩:Mail),[]⟩:DeedR),(⟨4,0,(⟨[],0,[]⟩:ShopR),(⟨[],0,0,[]⟩:E_),(⟨[97],[113],false,[],[],false⟩:BindR),[],0,0,0,0,0,(⟨0,[],[],[],[],0,0⟩:Mail),[]⟩:DeedR)].length)-0+1),0,r⟩ ⟨rfl,trivial⟩ ⟨rfl,trivial⟩ ?_ ?_
  · exact⟨Nat.lt_succ_self _,e9,by assumption⟩
  rintro⟨f,v,x⟩ ⟨hp14_1,hp14_2,hp14_3⟩;have hlen0:([(⟨0,0,(⟨[97],1,[]⟩:ShopR),(⟨[],0,0,[]⟩:E_),(⟨[],[],false,[],[],false⟩:BindR),[],0,0,0,0,0,(⟨0,[],[],[],[],0,0⟩:Mail),[]⟩:DeedR),(⟨2,0,(⟨[],0,[]⟩:ShopR),(⟨[113],4,0,[]⟩:E_),(⟨[],[],false,[],[],false⟩:BindR),[],0,0,0,0,0,(⟨0,[],[],[],[],0,0⟩:Mail),[]⟩:DeedR),(⟨4,0,(⟨[],0,[]⟩:ShopR),(⟨[],0,0,[]⟩:E_),(⟨[97],[113],false,[],[],false⟩:BindR),[],0,0,0,0,0,(⟨0,[],[],[],[],0,0⟩:Mail),[]⟩:DeedR)]).length<=100:=by decide
  obtain⟨f1,rfl⟩:∃ q,f=q+1:=⟨f-1,by omega⟩;have e_f1:=hp14_2.trans (Ht_.eq_2 _ _ _);refine gx Ev_ 6 ?_;refine cD e_f1 (fun p16 e17=>?_) (fun p37 e38=>?_)
  · have hc18:=getG (xs:=[(⟨0,0,(⟨[97],1,[]⟩:ShopR),(⟨[],0,0,[]⟩:E_),(⟨[],[],false,[],[],false⟩:BindR),[],0,0,0,0,0,(⟨0,[],[],[],[],0,0⟩:Mail),[]⟩:DeedR),(⟨2,0,(⟨[],0,[]⟩:ShopR),(⟨[113],4,0,[]⟩:E_),(⟨[],[],false,[],[],false⟩:BindR),[],0,0,0,0,0,(⟨0,[],[],[],[],0,0⟩:Mail),[]⟩:DeedR),(⟨4,0,(⟨[],0,[]⟩:ShopR),(⟨[],0,0,[]⟩:E_),(⟨[97],[113],false,[],[],false⟩:BindR),[],0,0,0,0,0,(⟨0,[],[],[],[],0,0⟩:Mail),[]⟩:DeedR)]) (k:=v) (by omega);have hz_hc18:=Ul_ (l:=[(⟨0,0,(⟨[97],1,[]⟩:ShopR),(⟨[],0,0,[]⟩:E_),(⟨[],[],false,[],[],false⟩:BindR),[],0,0,0,0,0,(⟨0,[],[],[],[],0,0⟩:Mail),[]⟩:DeedR),(⟨2,0,(⟨[],0,[]⟩:ShopR),(⟨[113],4,0,[]⟩:E_),(⟨[],[],false,[],[],false⟩:BindR),[],0,0,0,0,0,(⟨0,[],[],[],[],0,0⟩:Mail),[]⟩:DeedR),(⟨4,0,(⟨[],0,[]⟩:ShopR),(⟨[],0,0,[]⟩:E_),(⟨[97],[113],false,[],[],false⟩:BindR),[],0,0,0,0,0,(⟨0,[],[],[],[],0,0⟩:Mail),[]⟩:DeedR)]) (by decide +kernel) (gt [(⟨0,0,(⟨[97],1,[]⟩:ShopR),(⟨[],0,0,[]⟩:E_),(⟨[],[],false,[],[],false⟩:BindR),[],0,0,0,0,0,(⟨0,[],[],[],[],0,0⟩:Mail),[]⟩:DeedR),(⟨2,0,(⟨[],0,[]⟩:ShopR),(⟨[113],4,0,[]⟩:E_),(⟨[],[],false,[],[],false⟩:BindR),[],0,0,0,0,0,(⟨0,[],[],[],[],0,0⟩:Mail),[]⟩:DeedR),(⟨4,0,(⟨[],0,[]⟩:ShopR),(⟨[],0,0,[]⟩:E_),(⟨[97],[113],false,[],[],false⟩:BindR),[],0,0,0,0,0,(⟨0,[],[],[],[],0,0⟩:Mail),[]⟩:DeedR)] v) (List.mem_of_getElem? hc18);have hy_hc18:=hz_hc18.1;have hx_hc18:=hz_hc18.2;refine gx Ev_ 6 ?_;refine q1 (qidx Ev_ v rfl rfl rfl hc18 rfl rfl rfl rfl) rfl fun w19=>?_;refine gm Ev_ 9 [2] fun B21=>?_;refine cV e17 R22_ (Cc_ _ _ (hd:=by first|assumption|exact dd1 (by decide +kernel)|exact⟨by first|(simp;done)|omega,by first|(simp;done)|omega,by first|(simp;done)|((try dsimp only);omega),by first|(simp;done)|((try dsimp only);omega)⟩)) rfl fun r1 hr22 e24 w23=>?_;have hA24:=Pj_ (s:=x) (d:=(gt [(⟨0,0,(⟨[97],1,[]⟩:ShopR),(⟨[],0,0,[]⟩:E_),(⟨[],[],false,[],[],false⟩:BindR),[],0,0,0,0,0,(⟨0,[],[],[],[],0,0⟩:Mail),[]⟩:DeedR),(⟨2,0,(⟨[],0,[]⟩:ShopR),(⟨[113],4,0,[]⟩:E_),(⟨[],[],false,[],[],false⟩:BindR),[],0,0,0,0,0,(⟨0,[],[],[],[],0,0⟩:Mail),[]⟩:DeedR),(⟨4,0,(⟨[],0,[]⟩:ShopR),(⟨[],0,0,[]⟩:E_),(⟨[97],[113],false,[],[],false⟩:BindR),[],0,0,0,0,0,(⟨0,[],[],[],[],0,0⟩:Mail),[]⟩:DeedR)] v)) (by assumption) (by first|assumption|exact dd1 (by decide +kernel)|exact⟨by first|(simp;done)|omega,by first|(simp;done)|omega,by first|(simp;done)|((try dsimp only);omega),by first|(simp;done)|((try dsimp only);omega)⟩) (by first|assumption|omega|(dsimp only;omega)|decide +kernel)
    (try rw[<- hr22] at hA24)
    refine gm Ev_ 18 [3,4] fun B27=>?_;refine cN e24 (fun p31 e32=>?_) (fun p34 e35=>?_)
    · refine gx Ev_ 12 ?_;exact rt1 rfl rfl (Aa_ (fun r:Bool=> .bool r) e32 (ple rfl))
    refine gmy Ev_ 12 [] fun _=>?_;refine next ⟨f1,(v+1),r1.1⟩ rfl rfl ⟨rfl,trivial⟩ ⟨rfl,trivial⟩ ?_ ?_
    · (try simp only[]);omega
    exact⟨by (try simp only[]);omega,e35,by assumption⟩
  refine gx Ev_ 10 ?_;refine cV e38 R22_ (Cc_ _ (⟨6,0,(⟨[],0,[]⟩:ShopR),(⟨[],0,0,[]⟩:E_),(⟨[],[],false,[],[],false⟩:BindR),[],0,0,0,0,0,(⟨0,[97],[],[],[120],0,0⟩:Mail),[]⟩:DeedR) (hd:=by first|assumption|exact dd1 (by decide +kernel)|exact⟨by first|(simp;done)|omega,by first|(simp;done)|omega,by first|(simp;done)|((try dsimp only);omega),by first|(simp;done)|((try dsimp only);omega)⟩)) rfl fun r2 hr39 e41 w40=>?_;have hA41:=Pj_ (s:=x) (d:=(⟨6,0,(⟨[],0,[]⟩:ShopR),(⟨[],0,0,[]⟩:E_),(⟨[],[],false,[],[],false⟩:BindR),[],0,0,0,0,0,(⟨0,[97],[],[],[120],0,0⟩:Mail),[]⟩:DeedR)) (by assumption) (by first|assumption|exact dd1 (by decide +kernel)|exact⟨by first|(simp;done)|omega,by first|(simp;done)|omega,by first|(simp;done)|((try dsimp only);omega),by first|(simp;done)|((try dsimp only);omega)⟩) (by first|assumption|omega|(dsimp only;omega)|decide +kernel)
  (try rw[<- hr39] at hA41)
  refine gm Ev_ 14 [2] fun B44=>?_;refine cV e41 R22_ (Cc_ _ (⟨7,0,(⟨[],0,[]⟩:ShopR),(⟨[],0,0,[]⟩:E_),(⟨[],[],false,[],[],false⟩:BindR),[113],0,0,0,0,0,(⟨0,[],[],[],[],0,0⟩:Mail),[]⟩:DeedR) (hd:=by first|assumption|exact dd1 (by decide +kernel)|exact⟨by first|(simp;done)|omega,by first|(simp;done)|omega,by first|(simp;done)|((try dsimp only);omega),by first|(simp;done)|((try dsimp only);omega)⟩)) rfl fun r3 hr45 e47 w46=>?_;have hA47:=Pj_ (s:=r2.1) (d:=(⟨7,0,(⟨[],0,[]⟩:ShopR),(⟨[],0,0,[]⟩:E_),(⟨[],[],false,[],[],false⟩:BindR),[113],0,0,0,0,0,(⟨0,[],[],[],[],0,0⟩:Mail),[]⟩:DeedR)) (by assumption) (by first|assumption|exact dd1 (by decide +kernel)|exact⟨by first|(simp;done)|omega,by first|(simp;done)|omega,by first|(simp;done)|((try dsimp only);omega),by first|(simp;done)|((try dsimp only);omega)⟩) (by first|assumption|omega|(dsimp only;omega)|decide +kernel)
  (try rw[<- hr45] at hA47)
  refine gm Ev_ 13 [3,4] fun B50=>?_;refine call Rh_ rfl rfl fun w52=>?_;refine gx Ev_ 1 ?_;refine callg rfl (fun hc=>Rs_) rfl trivial rfl rfl fun _=>?_;refine gy Ev_ 2 ?_;refine callg rfl (fun hc=>Yu_) rfl trivial rfl rfl fun _=>?_;refine gy Ev_ 2 ?_;refine callg rfl (fun hc=>Ro_) rfl trivial rfl rfl fun _=>?_;refine gy Ev_ 25 ?_;exact rt1 rfl rfl (Aa_ (fun r:Bool=> .bool r) e47 (ple rfl))
theorem Rv_ (p:D_) (hp:PoOk p:=by first|assumption|exact Ny_ (by decide +kernel)) (hl:0<p.places.length:=by omega):Fn Tryz.prog gb 24 [.agg (D_.pc p)] (.tup [.agg (B_.pc ((Fu_ p).1)), .bool ((Fu_ p).2)]):=by
  refine fC Tryz.func24 Ev_ Tryz.ntmps24 fun w N H hG=>?_;have p_places_l:p.places.length<=140737488355328:=w.1.2.2.1.1;have p_slots_l:p.slots.length<=140737488355328:=w.1.2.2.2.1.1;have p_grants_l:p.grants.length<=140737488355328:=w.1.2.2.2.2.1.1;have hp0:=hp;have e0:=Fu_.eq_1 p;generalize Fu_ p=z at e0 ⊢;refine gm Ev_ 10 [0,1] fun B2=>?_;refine cV e0 R21_ (L9_ _ _ (hp:=by first|assumption|exact Ny_ (by decide +kernel)) (hk:=by first|omega|decide +kernel)) rfl fun r hr4 e6 w5=>?_;have hA6:=Zf_ (p:=p) (k:=0) (by first|assumption|exact Ny_ (by decide +kernel)) (by first|omega|(simp;done)|decide +kernel)
  (try rw[<- hr4] at hA6)
  refine gm Ev_ 19 [2] fun B9=>?_;refine ef (bsl 3 DeedR.pc [(⟨0,0,(⟨[97],1,[]⟩:ShopR),(⟨[],0,0,[]⟩:E_),(⟨[],[],false,[],[],false⟩:BindR),[],0,0,0,0,0,(⟨0,[],[],[],[],0,0⟩:Mail),[]⟩:DeedR),(⟨0,0,(⟨[100],1,[]⟩:ShopR),(⟨[],0,0,[]⟩:E_),(⟨[],[],false,[],[],false⟩:BindR),[],0,0,0,0,0,(⟨0,[],[],[],[],0,0⟩:Mail),[]⟩:DeedR),(⟨2,0,(⟨[],0,[]⟩:ShopR),(⟨[112],4,0,[100]⟩:E_),(⟨[],[],false,[],[],false⟩:BindR),[],0,0,0,0,0,(⟨0,[],[],[],[],0,0⟩:Mail),[]⟩:DeedR),(⟨2,0,(⟨[],0,[]⟩:ShopR),(⟨[122],4,0,[]⟩:E_),(⟨[],[],false,[],[],false⟩:BindR),[],0,0,0,0,0,(⟨0,[],[],[],[],0,0⟩:Mail),[]⟩:DeedR),(⟨4,0,(⟨[],0,[]⟩:ShopR),(⟨[],0,0,[]⟩:E_),(⟨[97],[112],false,[],[],false⟩:BindR),[],0,0,0,0,0,(⟨0,[],[],[],[],0,0⟩:Mail),[]⟩:DeedR),(⟨4,0,(⟨[],0,[]⟩:ShopR),(⟨[],0,0,[]⟩:E_),(⟨[100],[122],false,[],[],false⟩:BindR),[],0,0,0,0,0,(⟨0,[],[],[],[],0,0⟩:Mail),[]⟩:DeedR)] Ev_ rfl rfl rfl rfl rfl (fun _=>rfl) rfl (by decide) (by decide) rfl fun u10=>?_);refine gx Ev_ 5 ?_;refine givec 3 rfl ?_;refine loop (ι:=Nat×Nat×B_) [2,4,24,25] [0,1] (fun ⟨f,v,x⟩=>[(26, .int .i64 (v:Int))]) (fun ⟨f,v,x⟩=>[(2, .box (B9 0) 54 (B_.pc x))]) (fun ⟨f,v,x⟩=>([(⟨0,0,(⟨[97],1,[]⟩:ShopR),(⟨[],0,0,[]⟩:E_),(⟨[],[],false,[],[],false⟩:BindR),[],0,0,0,0,0,(⟨0,[],[],[],[],0,0⟩:Mail),[]⟩:DeedR),(⟨0,0,(⟨[100],1,[]⟩:ShopR),(⟨[],0,0,[]⟩:E_),(⟨[],[],false,[],[],false⟩:BindR),[],0,0,0,0,0,(⟨0,[],[],[],[],0,0⟩:Mail),[]⟩:DeedR),(⟨2,0,(⟨[],0,[]⟩:ShopR),(⟨[112],4,0,[100]⟩:E_),(⟨[],[],false,[],[],false⟩:BindR),[],0,0,0,0,0,(⟨0,[],[],[],[],0,0⟩:Mail),[]⟩:DeedR),(⟨2,0,(⟨[],0,[]⟩:ShopR),(⟨[122],4,0,[]⟩:E_),(⟨[],[],false,[],[],false⟩:BindR),[],0,0,0,0,0,(⟨0,[],[],[],[],0,0⟩:Mail),[]⟩:DeedR),(⟨4,0,(⟨[],0,[]⟩:ShopR),(⟨[],0,0,[]⟩:E_),(⟨[97],[112],false,[],[],false⟩:BindR),[],0,0,0,0,0,(⟨0,[],[],[],[],0,0⟩:Mail),[]⟩:DeedR),(⟨4,0,(⟨[],0,[]⟩:ShopR),(⟨[],0,0,[]⟩:E_),(⟨[100],[122],false,[],[],false⟩:BindR),[],0,0,0,0,0,(⟨0,[],[],[],[],0,0⟩:Mail),[]⟩:DeedR)].length)-v<f/\z=Fp_ f v x/\StOk x) (fun ⟨f,v,x⟩=>f) ⟨(([(⟨0,0,(⟨[97],1,[]⟩:ShopR),(⟨[],0,0,[]⟩:E_),(⟨[],[],false,[],[],false⟩:BindR),[],0,0,0,0,0,(⟨0,[],[],[],[],0,0⟩:Mail),[]⟩:DeedR),(⟨0,0,(⟨[100],1,[]⟩:ShopR),(⟨[],0,0,[]⟩:E_),(⟨[],[],false,[],[],false⟩:BindR),[],0,0,0,0,0,(⟨0,[],[],[],[],0,0⟩:Mail),[]⟩:DeedR),(⟨2,0,(⟨[],0,[]⟩:ShopR),(⟨[112],4,0,[100]⟩:E_),(⟨[],[],false,[],[],false⟩:BindR),[],0,0,0,0,0,(⟨0,[],[],[],[],0,0⟩:Mail),[]⟩:DeedR),(⟨2,0,(⟨[],0,[]⟩:ShopR),(⟨[122],4,0,[]⟩:E_),(⟨[],[],false,[],[],false⟩:BindR),[],0,0,0,0,0,(⟨0,[],[],[],[],0,0⟩:Mail),[]⟩:DeedR),(⟨4,0,(⟨[],0,[]⟩:ShopR),(⟨[],0,0,[]⟩:E_),(⟨[97],[112],false,[],[],false⟩:BindR),[],0,0,0,0,0,(⟨0,[],[],[],[],0,0⟩:Mail),[]⟩:DeedR),(⟨4,0,(⟨[],0,[]⟩:ShopR),(⟨[],0,0,[]⟩:E_),(⟨[100],[122],false,[],[],false⟩:BindR),[],0,0,0,0,0,(⟨0,[],[],[],[],0,0⟩:Mail),[]⟩:DeedR)].length)-0+1),0,r⟩ ⟨rfl,trivial⟩ ⟨rfl,trivial⟩ ?_ ?_
  · exact⟨Nat.lt_succ_self _,e6,by assumption⟩
  rintro⟨f,v,x⟩ ⟨hp11_1,hp11_2,hp11_3⟩;have hlen0:([(⟨0,0,(⟨[97],1,[]⟩:ShopR),(⟨[],0,0,[]⟩:E_),(⟨[],[],false,[],[],false⟩:BindR),[],0,0,0,0,0,(⟨0,[],[],[],[],0,0⟩:Mail),[]⟩:DeedR),(⟨0,0,(⟨[100],1,[]⟩:ShopR),(⟨[],0,0,[]⟩:E_),(⟨[],[],false,[],[],false⟩:BindR),[],0,0,0,0,0,(⟨0,[],[],[],[],0,0⟩:Mail),[]⟩:DeedR),(⟨2,0,(⟨[],0,[]⟩:ShopR),(⟨[112],4,0,[100]⟩:E_),(⟨[],[],false,[],[],false⟩:BindR),[],0,0,0,0,0,(⟨0,[],[],[],[],0,0⟩:Mail),[]⟩:DeedR),(⟨2,0,(⟨[],0,[]⟩:ShopR),(⟨[122],4,0,[]⟩:E_),(⟨[],[],false,[],[],false⟩:BindR),[],0,0,0,0,0,(⟨0,[],[],[],[],0,0⟩:Mail),[]⟩:DeedR),(⟨4,0,(⟨[],0,[]⟩:ShopR),(⟨[],0,0,[]⟩:E_),(⟨[97],[112],false,[],[],false⟩:BindR),[],0,0,0,0,0,(⟨0,[],[],[],[],0,0⟩:Mail),[]⟩:DeedR),(⟨4,0,(⟨[],0,[]⟩:ShopR),(⟨[],0,0,[]⟩:E_),(⟨[100],[122],false,[],[],false⟩:BindR),[],0,0,0,0,0,(⟨0,[],[],[],[],0,0⟩:Mail),[]⟩:DeedR)]).length<=100:=by decide
  obtain⟨f1,rfl⟩:∃ q,f=q+1:=⟨f-1,by omega⟩;have e_f1:=hp11_2.trans (Fp_.eq_2 _ _ _);refine gx Ev_ 6 ?_;refine cD e_f1 (fun p13 e14=>?_) (fun p35 e36=>?_)
  · have hc15:=getG (xs:=[(⟨0,0,(⟨[97],1,[]⟩:ShopR),(⟨[],0,0,[]⟩:E_),(⟨[],[],false,[],[],false⟩:BindR),[],0,0,0,0,0,(⟨0,[],[],[],[],0,0⟩:Mail),[]⟩:DeedR),(⟨0,0,(⟨[100],1,[]⟩:ShopR),(⟨[],0,0,[]⟩:E_),(⟨[],[],false,[],[],false⟩:BindR),[],0,0,0,0,0,(⟨0,[],[],[],[],0,0⟩:Mail),[]⟩:DeedR),(⟨2,0,(⟨[],0,[]⟩:ShopR),(⟨[112],4,0,[100]⟩:E_),(⟨[],[],false,[],[],false⟩:BindR),[],0,0,0,0,0,(⟨0,[],[],[],[],0,0⟩:Mail),[]⟩:DeedR),(⟨2,0,(⟨[],0,[]⟩:ShopR),(⟨[122],4,0,[]⟩:E_),(⟨[],[],false,[],[],false⟩:BindR),[],0,0,0,0,0,(⟨0,[],[],[],[],0,0⟩:Mail),[]⟩:DeedR),(⟨4,0,(⟨[],0,[]⟩:ShopR),(⟨[],0,0,[]⟩:E_),(⟨[97],[112],false,[],[],false⟩:BindR),[],0,0,0,0,0,(⟨0,[],[],[],[],0,0⟩:Mail),[]⟩:DeedR),(⟨4,0,(⟨[],0,[]⟩:ShopR),(⟨[],0,0,[]⟩:E_),(⟨[100],[122],false,[],[],false⟩:BindR),[],0,0,0,0,0,(⟨0,[],[],[],[],0,0⟩:Mail),[]⟩:DeedR)]) (k:=v) (by omega);have hz_hc15:=Ul_ (l:=[(⟨0,0,(⟨[97],1,[]⟩:ShopR),(⟨[],0,0,[]⟩:E_),(⟨[],[],false,[],[],false⟩:BindR),[],0,0,0,0,0,(⟨0,[],[],[],[],0,0⟩:Mail),[]⟩:DeedR),(⟨0,0,(⟨[100],1,[]⟩:ShopR),(⟨[],0,0,[]⟩:E_),(⟨[],[],false,[],[],false⟩:BindR),[],0,0,0,0,0,(⟨0,[],[],[],[],0,0⟩:Mail),[]⟩:DeedR),(⟨2,0,(⟨[],0,[]⟩:ShopR),(⟨[112],4,0,[100]⟩:E_),(⟨[],[],false,[],[],false⟩:BindR),[],0,0,0,0,0,(⟨0,[],[],[],[],0,0⟩:Mail),[]⟩:DeedR),(⟨2,0,(⟨[],0,[]⟩:ShopR),(⟨[122],4,0,[]⟩:E_),(⟨[],[],false,[],[],false⟩:BindR),[],0,0,0,0,0,(⟨0,[],[],[],[],0,0⟩:Mail),[]⟩:DeedR),(⟨4,0,(⟨[],0,[]⟩:ShopR),(⟨[],0,0,[]⟩:E_),(⟨[97],[112],false,[],[],false⟩:BindR),[],0,0,0,0,0,(⟨0,[],[],[],[],0,0⟩:Mail),[]⟩:DeedR),(⟨4,0,(⟨[],0,[]⟩:ShopR),(⟨[],0,0,[]⟩:E_),(⟨[100],[122],false,[],[],false⟩:BindR),[],0,0,0,0,0,(⟨0,[],[],[],[],0,0⟩:Mail),[]⟩:DeedR)]) (by decide +kernel) (gt [(⟨0,0,(⟨[97],1,[]⟩:ShopR),(⟨[],0,0,[]⟩:E_),(⟨[],[],false,[],[],false⟩:BindR),[],0,0,0,0,0,(⟨0,[],[],[],[],0,0⟩:Mail),[]⟩:DeedR),(⟨0,0,(⟨[100],1,[]⟩:ShopR),(⟨[],0,0,[]⟩:E_),(⟨[],[],false,[],[],false⟩:BindR),[],0,0,0,0,0,(⟨0,[],[],[],[],0,0⟩:Mail),[]⟩:DeedR),(⟨2,0,(⟨[],0,[]⟩:ShopR),(⟨[112],4,0,[100]⟩:E_),(⟨[],[],false,[],[],false⟩:BindR),[],0,0,0,0,0,(⟨0,[],[],[],[],0,0⟩:Mail),[]⟩:DeedR),(⟨2,0,(⟨[],0,[]⟩:ShopR),(⟨[122],4,0,[]⟩:E_),(⟨[],[],false,[],[],false⟩:BindR),[],0,0,0,0,0,(⟨0,[],[],[],[],0,0⟩:Mail),[]⟩:DeedR),(⟨4,0,(⟨[],0,[]⟩:ShopR),(⟨[],0,0,[]⟩:E_),(⟨[97],[112],false,[],[],false⟩:BindR),[],0,0,0,0,0,(⟨0,[],[],[],[],0,0⟩:Mail),[]⟩:DeedR),(⟨4,0,(⟨[],0,[]⟩:ShopR),(⟨[],0,0,[]⟩:E_),(⟨[100],[122],false,[],[],false⟩:BindR),[],0,0,0,0,0,(⟨0,[],[],[],[],0,0⟩:Mail),[]⟩:DeedR)] v) (List.mem_of_getElem? hc15);have hy_hc15:=hz_hc15.1;have hx_hc15:=hz_hc15.2;refine gx Ev_ 6 ?_;refine q1 (qidx Ev_ v rfl rfl rfl hc15 rfl rfl rfl rfl) rfl fun w16=>?_;refine gm Ev_ 9 [3] fun B18=>?_;refine cV e14 R22_ (Cc_ _ _ (hd:=by first|assumption|exact dd1 (by decide +kernel)|exact⟨by first|(simp;done)|omega,by first|(simp;done)|omega,by first|(simp;done)|((try dsimp only);omega),by first|(simp;done)|((try dsimp only);omega)⟩)) rfl fun r1 hr19 e21 w20=>?_;have hA21:=Pj_ (s:=x) (d:=(gt [(⟨0,0,(⟨[97],1,[]⟩:ShopR),(⟨[],0,0,[]⟩:E_),(⟨[],[],false,[],[],false⟩:BindR),[],0,0,0,0,0,(⟨0,[],[],[],[],0,0⟩:Mail),[]⟩:DeedR),(⟨0,0,(⟨[100],1,[]⟩:ShopR),(⟨[],0,0,[]⟩:E_),(⟨[],[],false,[],[],false⟩:BindR),[],0,0,0,0,0,(⟨0,[],[],[],[],0,0⟩:Mail),[]⟩:DeedR),(⟨2,0,(⟨[],0,[]⟩:ShopR),(⟨[112],4,0,[100]⟩:E_),(⟨[],[],false,[],[],false⟩:BindR),[],0,0,0,0,0,(⟨0,[],[],[],[],0,0⟩:Mail),[]⟩:DeedR),(⟨2,0,(⟨[],0,[]⟩:ShopR),(⟨[122],4,0,[]⟩:E_),(⟨[],[],false,[],[],false⟩:BindR),[],0,0,0,0,0,(⟨0,[],[],[],[],0,0⟩:Mail),[]⟩:DeedR),(⟨4,0,(⟨[],0,[]⟩:ShopR),(⟨[],0,0,[]⟩:E_),(⟨[97],[112],false,[],[],false⟩:BindR),[],0,0,0,0,0,(⟨0,[],[],[],[],0,0⟩:Mail),[]⟩:DeedR),(⟨4,0,(⟨[],0,[]⟩:ShopR),(⟨[],0,0,[]⟩:E_),(⟨[100],[122],false,[],[],false⟩:BindR),[],0,0,0,0,0,(⟨0,[],[],[],[],0,0⟩:Mail),[]⟩:DeedR)] v)) (by assumption) (by first|assumption|exact dd1 (by decide +kernel)|exact⟨by first|(simp;done)|omega,by first|(simp;done)|omega,by first|(simp;done)|((try dsimp only);omega),by first|(simp;done)|((try dsimp only);omega)⟩) (by first|assumption|omega|(dsimp only;omega)|decide +kernel)
    (try rw[<- hr19] at hA21)
    refine gm Ev_ 18 [4,5] fun B24=>?_;refine cN e21 (fun p28 e29=>?_) (fun p32 e33=>?_)
    · refine gm Ev_ 14 [] fun _=>?_;subst e29;exact qr2
    refine gmy Ev_ 12 [] fun _=>?_;refine next ⟨f1,(v+1),r1.1⟩ rfl rfl ⟨rfl,trivial⟩ ⟨rfl,trivial⟩ ?_ ?_
    · (try simp only[]);omega
    exact⟨by (try simp only[]);omega,e33,by assumption⟩
  refine gm Ev_ 13 [] fun _=>?_;subst e36;exact qr2
abbrev R33_:A0_->PV:=fun r=> .agg (A0_.pc r)
theorem fl94_2:Fld Tryz.prog 94 2 3:=fun b o w=>by kernel_rfl
abbrev R36_:(B_×Bool)->PV:=fun r=> .tup [.agg (B_.pc r.1), .bool r.2]
abbrev R37_:LineR->PV:=fun r=> .agg (LineR.pc r)
abbrev R38_:(List ItemR)->PV:=fun r=> .sl ItemR.pc r
abbrev ty26v130:TI:=⟨.agg [(0,1),(1,1),(2,1),(3,1),(4,1)],5,88,[.int .i64 0, .int .i64 0, .val (.slice none 0 0), .val (.slice none 0 0), .val (.slice none 0 0)]⟩
abbrev ty54v130:TI:=⟨.agg [(0,71),(71,5),(76,1)],77,984,[.sl ShopR.pc [], .sl BindR.pc [], .int .u64 0, .int .i64 0, .sl RowR.pc [], .int .u64 0, .sl Mail.pc [], .int .u64 0, .sl Mail.pc [], .int .u64 0, .sl Mail.pc [], .int .u64 0, .sl Mail.pc [], .int .u64 0, .sl Mail.pc [], .int .u64 0, .sl Mail.pc [], .int .u64 0, .sl Mail.pc [], .int .u64 0, .sl Mail.pc [], .int .u64 0, .sl Mail.pc [], .int .u64 0, .sl Mail.pc [], .int .u64 0, .sl Mail.pc [], .int .u64 0, .sl Mail.pc [], .int .u64 0, .sl Mail.pc [], .int .u64 0, .sl Mail.pc [], .int .u64 0, .sl Mail.pc [], .int .u64 0, .sl Mail.pc [], .int .u64 0, .sl NoteR.pc [], .int .u64 0, .int .u64 0, .int .u64 0, .int .u64 0, .int .u64 0, .int .u64 0, .int .u64 0, .int .u64 0, .int .u64 0, .int .u64 0, .int .u64 0, .int .u64 0, .int .u64 0, .int .u64 0, .int .u64 0, .int .u64 0, .int .u64 0, .int .i64 0, .int .u64 0, .int .i64 0, .int .u64 0, .int .i64 0, .int .u64 0, .int .i64 0, .int .u64 0, .int .i64 0, .int .u64 0, .int .i64 0, .int .u64 0, .int .i64 0, .int .u64 0, .int .i64 0, .int .i64 0, .int .i64 0, .val (.slice none 0 0), .val (.slice none 0 0), .val (.slice none 0 0), .int .i64 0]⟩
def tbv130:Tb:=[(3,ty3),(4,ty4),(5,ty5),(9,ty9),(22,ty22),(23,ty23),(26,ty26v130),(36,ty36),(43,ty43),(46,ty46),(52,ty52),(54,ty54v130),(65,ty65),(67,ty67),(75,ty75),(77,ty77),(94,ty94),(100,ty100)]
theorem Ch_:tbB Tryz.prog tbv130=true:=by kernel_rfl
theorem l23_StoreBuries_ok (m:Mail) (tick:Int) (late:Bool):Fn Tryz.prog gb 5 [.agg (Mail.pc m), .int .u64 tick, .bool late] (.bool (E2_ m tick late)):=by
  refine fC Tryz.func5 Ch_ Tryz.ntmps5 fun w N H hG=>?_;have m_id_r:0<=m.id/\m.id<=18446744073709551615:=w.1.1;have m_shop_l:m.shop.length<=9223372036854775807:=w.1.2.1;have m_key_l:m.key.length<=9223372036854775807:=w.1.2.2.1;have m_head_l:m.head.length<=140737488355328:=w.1.2.2.2.1.1;have m_body_l:m.body.length<=9223372036854775807:=w.1.2.2.2.2.1;have m_due_r:0<=m.due/\m.due<=18446744073709551615:=w.1.2.2.2.2.2.1;have m_hops_r:0<=m.hops/\m.hops<=255:=w.1.2.2.2.2.2.2.1;have tick_r:0<=tick/\tick<=18446744073709551615:=w.2.1;have e0:=E2_.eq_1 m tick late;generalize E2_ m tick late=z at e0 ⊢;refine gm Ch_ 9 [0] fun B2=>?_;refine call Ru_ rfl rfl fun w3=>?_;refine gx Ch_ 3 ?_;refine cE e0 (fun h4 e6=>?_) (fun h4 e8=>?_)
  · have h5:=Cg_ h4;refine gx Ch_ 7 ?_;subst e6;exact qr1
  have h7:=Cf_ h4;refine gx Ch_ 6 ?_;refine call (Yq_ _) rfl rfl fun w9=>?_;have hlx9:=Nl_ m;refine gx Ch_ 3 ?_;refine cE e8 (fun h10 e12=>?_) (fun h10 e15=>?_)
  · have h11:=Cg_ h10;refine gx Ch_ 7 ?_;subst e12;exact qr1
  have h13:=Cf_ h10;have hb13:=Nl_ _ h13
  (try obtain⟨hb13a,hb13b⟩:=hb13)
  refine gx Ch_ 4 ?_;refine hinl [] Ch_ Tryz.func22 rfl Tryz.ntmps22 cb22 rfl rfl rfl rfl fun Hc16 hHc16=>?_;refine gm Ch_ 8 [1] fun B18=>?_;refine ef (bsl 2 Q_.pc [(⟨[108,111,119],(⟨0,0⟩:Al_),500,1⟩:Q_)] Ch_ rfl rfl rfl rfl rfl (fun _=>rfl) rfl (by decide) (by decide) rfl fun u19=>?_);refine ef (bsl 3 i64c [0] Ch_ rfl rfl rfl rfl rfl (fun _=>rfl) rfl (by decide) (by decide) rfl fun u20=>?_);refine gm Ch_ 2 [] fun _=>?_;refine Uh_ (i:=1) (o:=2) 2 rfl rfl rfl ?_;refine Uh_ (i:=1) (o:=3) 3 rfl rfl rfl ?_;refine gx Ch_ 3 ?_;refine inlr rfl rfl rfl trivial ?_;refine gm Ch_ 2 [4] fun B23=>?_;refine Uh_ (i:=4) (o:=2) 2 rfl rfl rfl ?_;refine Uh_ (i:=4) (o:=3) 3 rfl rfl rfl ?_;refine gx Ch_ 6 ?_;refine q1 (eidx 0 Ch_ rfl rfl rfl rfl rfl rfl rfl rfl (by first|omega|(simp;done))) rfl fun w24=>?_;refine q1 (efld rfl fl94_2) rfl fun w25=>?_;have hc26:=getG (xs:=[(⟨[108,111,119],(⟨0,0⟩:Al_),500,1⟩:Q_)]) (k:=0) (by first|omega|(simp;done));refine ef (est1 (i:=2) 0 3 (⟨(gt [(⟨[108,111,119],(⟨0,0⟩:Al_),500,1⟩:Q_)] 0).name,(gt [(⟨[108,111,119],(⟨0,0⟩:Al_),500,1⟩:Q_)] 0).label,5000,(gt [(⟨[108,111,119],(⟨0,0⟩:Al_),500,1⟩:Q_)] 0).base⟩:Q_) Ch_ rfl rfl rfl rfl rfl rfl (by first|omega|(simp;done)) rfl (by decide) (fun _ h=>by obtain rfl :=Option.some.inj (h.symm.trans hc26);rfl) ?_);have hset26:([(⟨[108,111,119],(⟨0,0⟩:Al_),500,1⟩:Q_)].set 0 (⟨(gt [(⟨[108,111,119],(⟨0,0⟩:Al_),500,1⟩:Q_)] 0).name,(gt [(⟨[108,111,119],(⟨0,0⟩:Al_),500,1⟩:Q_)] 0).label,5000,(gt [(⟨[108,111,119],(⟨0,0⟩:Al_),500,1⟩:Q_)] 0).base⟩:Q_)).length=[(⟨[108,111,119],(⟨0,0⟩:Al_),500,1⟩:Q_)].length:=List.length_set ..;refine gx Ch_ 4 ?_;refine give 2 rfl ?_;refine give 3 rfl ?_;refine gx Ch_ 1 ?_;refine cV e15 R36_ (Fn.le (Rv_ (⟨4,1,([(⟨[108,111,119],(⟨0,0⟩:Al_),500,1⟩:Q_)].set 0 (⟨(gt [(⟨[108,111,119],(⟨0,0⟩:Al_),500,1⟩:Q_)] 0).name,(gt [(⟨[108,111,119],(⟨0,0⟩:Al_),500,1⟩:Q_)] 0).label,5000,(gt [(⟨[108,111,119],(⟨0,0⟩:Al_),500,1⟩:Q_)] 0).base⟩:Q_)),[0],[]⟩:D_) (hp:=by exact Ny_ (by decide +kernel)) (hl:=by decide +kernel)) (A_ (Dt_ (A_ (ple rfl) (A_ (ple rfl) (A_ (ple rfl) (A_ (ple rfl) (A_ L_ S_)))))) S_) (ple rfl) rfl) rfl fun r hr28 e30 w29=>?_;have hA30:=pipes_ok (p:=(⟨4,1,([(⟨[108,111,119],(⟨0,0⟩:Al_),500,1⟩:Q_)].set 0 (⟨(gt [(⟨[108,111,119],(⟨0,0⟩:Al_),500,1⟩:Q_)] 0).name,(gt [(⟨[108,111,119],(⟨0,0⟩:Al_),500,1⟩:Q_)] 0).label,5000,(gt [(⟨[108,111,119],(⟨0,0⟩:Al_),500,1⟩:Q_)] 0).base⟩:Q_)),[0],[]⟩:D_)) (by first|assumption|exact Ny_ (by decide +kernel)) (by first|omega|(simp;done))
  (try rw[<- hr28] at hA30)
  refine gm Ch_ 21 [2] fun B33=>?_;refine callg rfl (fun hc=>(Z0_ (⟨m.id,[97],m.key,m.head,m.body,m.due,m.hops⟩:Mail))) rfl ⟨(fun hc=>hc),trivial⟩ rfl rfl fun _=>?_;refine gy Ch_ 4 ?_;refine cE e30 (fun h34 e35=>?_) (fun h34 e41=>?_)
  · refine gx Ch_ 8 ?_;subst e35;exact qr1
  have h36:=orl h34;have h37:=Cf_ h36;have h38:=orr h34;have h39:=Cf_ h38;have p40:=dt h39;refine gx Ch_ 3 ?_;obtain⟨o,e_o,q_o⟩:=Gg_ e41;refine H7_ (ι:=Mail) [2,3,6,8] [1,2,4] (fun x=>[]) (fun x=>[(0, .box (B2 0) 65 (Mail.pc x))]) (fun x=>o=x/\x.head.length<=12/\x.key.length<=100/\0<=x.hops/\x.hops<=255) ?_ ?_
  · refine gm Ch_ 11 [] fun _=>?_;refine cE e_o (fun h43 e44=>?_) (fun h43 e46=>?_)
    · refine gm Ch_ 6 [] fun _=>?_;refine nZ (⟨m.id,[97],m.key,m.head,m.body,(max tick 1),m.hops⟩:Mail) ?_ trivial ⟨rfl,trivial⟩;exact⟨e44,⟨by (try dsimp only);omega,by (try dsimp only);omega,by (try dsimp only);omega,by (try dsimp only);omega⟩⟩
    refine gx Ch_ 1 ?_;refine nZ (⟨m.id,[97],m.key,m.head,m.body,0,m.hops⟩:Mail) ?_ trivial ⟨rfl,trivial⟩;exact⟨e46,⟨by (try dsimp only);omega,by (try dsimp only);omega,by (try dsimp only);omega,by (try dsimp only);omega⟩⟩
  rintro x ⟨hp47,hp47_3⟩;have e48:=Jc_ q_o hp47;refine gx Ch_ 6 ?_;refine cV e48 R22_ (Cc_ _ (⟨6,0,(⟨[],0,[]⟩:ShopR),(⟨[],0,0,[]⟩:E_),(⟨[],[],false,[],[],false⟩:BindR),[],0,0,0,0,0,x,[]⟩:DeedR) (hd:=by first|assumption|exact dd1 (by decide +kernel)|exact⟨by first|(simp;done)|omega,by first|(simp;done)|omega,by first|(simp;done)|((try dsimp only);omega),by first|(simp;done)|((try dsimp only);omega)⟩)) rfl fun r1 hr49 e51 w50=>?_;have hA51:=Pj_ (s:=r.1) (d:=(⟨6,0,(⟨[],0,[]⟩:ShopR),(⟨[],0,0,[]⟩:E_),(⟨[],[],false,[],[],false⟩:BindR),[],0,0,0,0,0,x,[]⟩:DeedR)) (by assumption) (by first|assumption|exact dd1 (by decide +kernel)|exact⟨by first|(simp;done)|omega,by first|(simp;done)|omega,by first|(simp;done)|((try dsimp only);omega),by first|(simp;done)|((try dsimp only);omega)⟩) (by first|assumption|omega|(dsimp only;omega)|decide +kernel)
  (try rw[<- hr49] at hA51)
  refine gmy Ch_ 22 [3] fun B54=>?_;refine cE e51 (fun h55 e56=>?_) (fun h55 e63=>?_)
  · refine gx Ch_ 7 ?_;subst e56;exact qr1
  have h57:=orl h55;have h58:=Cf_ h57;have p59:=dt h58;have h60:=orr h55;have h61:=Cf_ h60;have p62:=dt h61;refine gx Ch_ 3 ?_;obtain⟨o1,e_o1,q_o1⟩:=Y8_ e63;refine H7_ (ι:=Int×B_×X_) [3,8,10] [0,1,4] (fun ⟨e_1,x1,x2⟩=>[(11, .int .i64 e_1)]) (fun ⟨e_1,x1,x2⟩=>[(2, .box (B33 0) 54 (B_.pc x1)),(3, .box (B54 0) 77 (X_.pc x2))]) (fun ⟨e_1,x1,x2⟩=>o1 = .fin (e_1,x1,x2)/\StOk x1) ?_ ?_
  · refine gx Ch_ 5 ?_;refine cE e_o1 (fun h64 e65=>?_) (fun h64 e71=>?_)
    · refine gx Ch_ 5 ?_;refine cV e65 R22_ (Cc_ _ (⟨9,x.due,(⟨[],0,[]⟩:ShopR),(⟨[],0,0,[]⟩:E_),(⟨[],[],false,[],[],false⟩:BindR),[],0,0,0,0,0,(⟨0,[],[],[],[],0,0⟩:Mail),[]⟩:DeedR) (hd:=by first|assumption|exact dd1 (by decide +kernel)|exact⟨by first|(simp;done)|omega,by first|(simp;done)|omega,by first|(simp;done)|((try dsimp only);omega),by first|(simp;done)|((try dsimp only);omega)⟩)) rfl fun r2 hr66 e68 w67=>?_;have hA68:=Pj_ (s:=r1.1) (d:=(⟨9,x.due,(⟨[],0,[]⟩:ShopR),(⟨[],0,0,[]⟩:E_),(⟨[],[],false,[],[],false⟩:BindR),[],0,0,0,0,0,(⟨0,[],[],[],[],0,0⟩:Mail),[]⟩:DeedR)) (by assumption) (by first|assumption|exact dd1 (by decide +kernel)|exact⟨by first|(simp;done)|omega,by first|(simp;done)|omega,by first|(simp;done)|((try dsimp only);omega),by first|(simp;done)|((try dsimp only);omega)⟩) (by first|assumption|omega|(dsimp only;omega)|decide +kernel)
      (try rw[<- hr66] at hA68)
      refine gm Ch_ 8 [] fun _=>?_;refine nZ ⟨r2.2.2,r2.1,r2.2.1⟩ ?_ ⟨rfl,trivial⟩ ⟨rfl,rfl,trivial⟩;exact⟨e68,by assumption⟩
    refine gx Ch_ 4 ?_;refine cV e71 R22_ (Cc_ _ (⟨7,0,(⟨[],0,[]⟩:ShopR),(⟨[],0,0,[]⟩:E_),(⟨[],[],false,[],[],false⟩:BindR),[112],0,0,0,0,0,(⟨0,[],[],[],[],0,0⟩:Mail),[]⟩:DeedR) (hd:=by first|assumption|exact dd1 (by decide +kernel)|exact⟨by first|(simp;done)|omega,by first|(simp;done)|omega,by first|(simp;done)|((try dsimp only);omega),by first|(simp;done)|((try dsimp only);omega)⟩)) rfl fun r3 hr72 e74 w73=>?_;have hA74:=Pj_ (s:=r1.1) (d:=(⟨7,0,(⟨[],0,[]⟩:ShopR),(⟨[],0,0,[]⟩:E_),(⟨[],[],false,[],[],false⟩:BindR),[112],0,0,0,0,0,(⟨0,[],[],[],[],0,0⟩:Mail),[]⟩:DeedR)) (by assumption) (by first|assumption|exact dd1 (by decide +kernel)|exact⟨by first|(simp;done)|omega,by first|(simp;done)|omega,by first|(simp;done)|((try dsimp only);omega),by first|(simp;done)|((try dsimp only);omega)⟩) (by first|assumption|omega|(dsimp only;omega)|decide +kernel)
    (try rw[<- hr72] at hA74)
    refine gmy Ch_ 22 [] fun _=>?_;refine cE e74 (fun h77 e78=>?_) (fun h77 e85=>?_)
    · refine gx Ch_ 9 ?_;have e79:=lp3_ret q_o1 e78;subst e79;exact qr1
    have h80:=orl h77;have h81:=Cf_ h80;have p82:=dt h81;have h83:=orr h77;have h84:=Cf_ h83;refine gx Ch_ 9 ?_;refine cV e85 R22_ (Cc_ _ (⟨8,0,(⟨[],0,[]⟩:ShopR),(⟨[],0,0,[]⟩:E_),(⟨[],[],false,[],[],false⟩:BindR),[112],r3.2.1.item.mail.id,1,0,0,0,(⟨0,[],[],[],[],0,0⟩:Mail),[]⟩:DeedR) (hd:=by first|assumption|exact dd1 (by decide +kernel)|exact⟨by first|(simp;done)|omega,by first|(simp;done)|omega,by first|(simp;done)|((try dsimp only);omega),by first|(simp;done)|((try dsimp only);omega)⟩)) rfl fun r4 hr86 e88 w87=>?_;have hA88:=Pj_ (s:=r3.1) (d:=(⟨8,0,(⟨[],0,[]⟩:ShopR),(⟨[],0,0,[]⟩:E_),(⟨[],[],false,[],[],false⟩:BindR),[112],r3.2.1.item.mail.id,1,0,0,0,(⟨0,[],[],[],[],0,0⟩:Mail),[]⟩:DeedR)) (by assumption) (by first|assumption|exact dd1 (by decide +kernel)|exact⟨by first|(simp;done)|omega,by first|(simp;done)|omega,by first|(simp;done)|((try dsimp only);omega),by first|(simp;done)|((try dsimp only);omega)⟩) (by first|assumption|omega|(dsimp only;omega)|decide +kernel)
    (try rw[<- hr86] at hA88)
    refine gm Ch_ 8 [] fun _=>?_;refine nZ ⟨r4.2.2,r4.1,r4.2.1⟩ ?_ ⟨rfl,trivial⟩ ⟨rfl,rfl,trivial⟩;exact⟨e88,by assumption⟩
  rintro⟨e_1,x1,x2⟩ ⟨hp91,hp91_3⟩;have e92:=lp3_fin q_o1 hp91;refine gx Ch_ 4 ?_;refine cV e92 R33_ (J4_ _) rfl fun r5 hr93 e95 w94=>?_;refine gm Ch_ 8 [5] fun B97=>?_;refine cV e95 R37_ (Hl_ _ _) rfl fun r6 hr98 e100 w99=>?_;have hA100:=line_ok (s:=r5.stock) (n:=[122]) (by first|assumption|exact Zv_ (by assumption) (by assumption))
  (try rw[<- hr98] at hA100)
  refine cV e100 R38_ (Mc_ _) rfl fun r7 hr102 e104 w103=>?_;refine gy Ch_ 11 ?_;refine callg rfl (fun hc=>(Hl_ _ _)) rfl ⟨(fun hc=>hc),trivial⟩ rfl rfl fun _=>?_;refine callg rfl (fun hc=>(Iw_ _)) rfl ⟨(fun hc=>hc),trivial⟩ rfl rfl fun _=>?_;refine gy Ch_ 4 ?_;refine cE e104 (fun h105 e106=>?_) (fun h105 e113=>?_)
  · refine gx Ch_ 7 ?_;subst e106;exact qr1
  have h107:=orl h105;have h108:=Cf_ h107;have p109:=dt h108;have h110:=orr h105;have h111:=Cf_ h110;have p112:=dt h111;refine gx Ch_ 10 ?_;refine cD e113 (fun p115 e116=>?_) (fun p117 e118=>?_)
  · refine gy Ch_ 13 ?_;refine callg rfl (fun hc=>(Gw_ _)) rfl ⟨(fun hc=>hc),trivial⟩ rfl rfl fun _=>?_;refine gy Ch_ 7 ?_;subst e116;exact qr1
  refine gx Ch_ 3 ?_;refine aN [6,7,8,9,10,11] 56 mixd ?_;refine gXy Ch_ [0,1,2,3,4,5,6,7,8,9] 46 ?_;refine vqg 10 [135] rfl (by kernel_rfl) rfl rfl (fun hc=>qidx Ch_ 0 rfl rfl rfl (getG (by first|omega|(simp only[gOf,bl2] at *;omega))) rfl rfl rfl rfl) ⟨(fun hc=>hc),trivial⟩ rfl fun _=>?_;have :=wr_u8 (x.hops+1);refine gXy Ch_ [11,12,13,14,15,16,17,18,19,20] 35 ?_;refine vqg 21 [146] rfl (by kernel_rfl) rfl rfl (fun hc=>qidx Ch_ 0 rfl rfl rfl (getG (by first|omega|(simp only[gOf,bl2] at *;omega))) rfl rfl rfl rfl) ⟨(fun hc=>hc),trivial⟩ rfl fun _=>?_;refine gXy Ch_ [22,23,24,25,26,27,28] 27 ?_;refine vqg 29 [154] rfl (by kernel_rfl) rfl rfl (fun hc=>qidx Ch_ 0 rfl rfl rfl (getG (by first|omega|(simp only[gOf,bl2] at *;omega))) rfl rfl rfl rfl) ⟨(fun hc=>hc),trivial⟩ rfl fun _=>?_;refine gXy Ch_ [30,31,32,33,34,35,36] 19 ?_;refine vqg 37 [162] rfl (by kernel_rfl) rfl rfl (fun hc=>qidx Ch_ 0 rfl rfl rfl (getG (by first|omega|(simp only[gOf,bl2] at *;omega))) rfl rfl rfl rfl) ⟨(fun hc=>hc),trivial⟩ rfl fun _=>?_;refine gXy Ch_ [38,39,40,41,42,43,44,45,46] 9 ?_;refine vqg 47 [172] rfl (by kernel_rfl) rfl rfl (fun hc=>qidx Ch_ 0 rfl rfl rfl (getG (by first|omega|(simp only[gOf,bl2] at *;omega))) rfl rfl rfl rfl) ⟨(fun hc=>hc),trivial⟩ rfl fun _=>?_;refine gXy Ch_ [48,49,50,51,52,53,54,55] 0 ?_;refine vD ?_;refine gx Ch_ 2 ?_;subst e118;exact qr1
end Go.SW.V
namespace Go.SW
def errD:DataW Unit->Bs
  | .iface _ (.ptr (.agg [.lit (.string b)]))=>b
  |_=>[]
def layE (pt low:Nat):Nat->List (Nat×DataW Unit)->Array Obj->Array Obj
  |_,[],h=>h
  | k,x::l,h=>layE pt low (k+1) l (h.modify x.1 fun
    | .cells _ t frozen=> .cells #[.iface pt (.pointer (some ⟨low+k,0,none⟩))] t frozen
    |o=>o)
noncomputable def laidWE (P:Program) (os:Os) (pt st:Nat) (l e:List (Nat×DataW Unit)):World:=
  let low:=(World.holding P os ⟨#[],#[],[]⟩).heap.size
  let w0:=World.holding P os ⟨(e.map fun x=>Obj.cells #[.string ⟨(errD x.2).toArray⟩] st).toArray,#[],[]⟩
  {w0 with heap:=layE pt low 0 e (List.foldl (fun h x=>h.modify x.1 (layD x.2)) w0.heap l)}
end Go.SW
namespace Go.SW.V
open Go.SW
def burP:D_:=⟨4,1,[⟨[108,111,119],⟨0,0⟩,5000,1⟩],[0],[]⟩
def burB:BookR:=⟨[⟨[97],1,[]⟩,⟨[100],1,[]⟩],[⟨[97],[112],false,[],[],false⟩,⟨[100],[122],false,[],[],false⟩]⟩
def burR:A16_RiseR:=⟨⟨0,[]⟩,⟨0,[]⟩,⟨0,[]⟩,⟨0,[]⟩,⟨0,[]⟩,⟨0,[]⟩,⟨0,[]⟩,⟨0,[]⟩,⟨0,[]⟩,⟨0,[]⟩,⟨0,[]⟩,⟨0,[]⟩,⟨0,[]⟩,⟨0,[]⟩,⟨0,[]⟩,⟨0,[]⟩⟩
def burK (n:Int) (lp lz:List ItemR):H_:=⟨n,5000,[⟨⟨[112],4,0,[100]⟩,⟨lp⟩⟩,⟨⟨[122],4,0,[]⟩,⟨lz⟩⟩],burR⟩
def burS (n:Int) (lp lz:List ItemR) (nt:Cw_):B_:=⟨⟨burB,burK n lp lz,nt,⟨0,0,0,0,0,0,0,0,0,0,0,0,0,0,0,0⟩,⟨⟨0,0⟩,⟨0,0⟩,⟨0,0⟩,⟨0,0⟩,⟨0,0⟩,⟨0,0⟩,⟨0,0⟩,⟨0,0⟩⟩⟩,burP,0⟩
theorem Xa_:Fu_ burP=(burS 1 [] [] ⟨0,[]⟩,true):=by decide +kernel
theorem Vv_ (key:Bs) (h:List Pair):Y_ burB [97] key h=([[112]],[],0):=by rfl
theorem Vw_ (key:Bs) (h:List Pair):Y_ burB [100] key h=([[122]],[],0):=by rfl
theorem Qr_:De_ ⟨0,[],[],[],[],0,0⟩=0:=by decide +kernel
def it (n:Int) (sh:Bs) (m:Mail) (due:Int) (lent again:Bool):ItemR:=⟨⟨n,sh,m.key,m.head,m.body,due,m.hops⟩,lent,again⟩
theorem c0 {b:Bool} (h:b=false) {α:Type} (x y:α):(bif b then x else y)=y:=by rw[h];rfl
theorem W4_ {m:Mail} (h:Bv_ m=0):A1_ ⟨[]⟩ m=(⟨[⟨m,false,false⟩]⟩,0):=by
  unfold A1_ Dj_ C5_ lt
  dsimp only
  rw[h]
  rfl
theorem bur_putP {m:Mail} (h:Bv_ m=0):Af_ (burK 1 [] []) [112] m=(burK 2 [it 1 m.shop m m.due false false] [],1,⟨0,[],[],[],[],0,0⟩,0):=by
  have hs:=L7_ ⟨1,m.shop,m.key,m.head,m.body,m.due,m.hops⟩
  have hc:Bv_ ⟨1,m.shop,m.key,m.head,m.body,m.due,m.hops⟩=0:=h
  unfold Af_ lt
  rw[show M_ (burK 1 [] []) [112]=0 from rfl]
  dsimp only
  rw[c0 (show decide ((0:Int)<0)=false from rfl),h]
  rw[c0 (show (!decide ((0:Int)=0))=false from rfl)]
  rw[c0 (show decide ((burK 1 [] []).next = 0)=false from rfl)]
  rw[c0 (show decide ((gt (burK 1 [] []).rows (Int.toNat 0)).q.most<=IntKind.wrap .u64 (Eh_ (gt (burK 1 [] []).rows (Int.toNat 0)).l))=false from rfl)]
  show (bif decide (B6_ (burK 1 [] [])+De_ ⟨0,[],[],[],[],0,0⟩<De_ ⟨1,m.shop,m.key,m.head,m.body,m.due,m.hops⟩) then _ else _)=_
  rw [c0 (by
    rw[Qr_,show B6_ (burK 1 [] [])=5000 from rfl]
    exact decide_eq_false (by omega))]
  show (fun r3:LineR×Int=>bif !decide (r3.2=0) then (burK 1 [] [],(0:Int),(⟨0,[],[],[],[],0,0⟩:Mail),r3.2) else (fun r4:H_=>((⟨IntKind.wrap .u64 (r4.next + 1),r4.bytes,r4.rows,r4.rises⟩:H_),(burK 1 [] []).next,(⟨0,[],[],[],[],0,0⟩:Mail),(0:Int))) (T_ (burK 1 [] []) 0 r3.1)) (A1_ ⟨[]⟩ ⟨1,m.shop,m.key,m.head,m.body,m.due,m.hops⟩)=_
  rw[W4_ hc]
  rfl
theorem bur_putZ {m:Mail} (h:Bv_ m=0):Af_ (burK 2 [] []) [122] m=(burK 3 [] [it 2 m.shop m m.due false false],2,⟨0,[],[],[],[],0,0⟩,0):=by
  have hs:=L7_ ⟨2,m.shop,m.key,m.head,m.body,m.due,m.hops⟩
  have hc:Bv_ ⟨2,m.shop,m.key,m.head,m.body,m.due,m.hops⟩=0:=h
  unfold Af_ lt
  rw[show M_ (burK 2 [] []) [122]=1 from rfl]
  dsimp only
  rw[c0 (show decide ((1:Int)<0)=false from rfl),h]
  rw[c0 (show (!decide ((0:Int)=0))=false from rfl)]
  rw[c0 (show decide ((burK 2 [] []).next = 0)=false from rfl)]
  rw[c0 (show decide ((gt (burK 2 [] []).rows (Int.toNat 1)).q.most<=IntKind.wrap .u64 (Eh_ (gt (burK 2 [] []).rows (Int.toNat 1)).l))=false from rfl)]
  show (bif decide (B6_ (burK 2 [] [])+De_ ⟨0,[],[],[],[],0,0⟩<De_ ⟨2,m.shop,m.key,m.head,m.body,m.due,m.hops⟩) then _ else _)=_
  rw [c0 (by
    rw[Qr_,show B6_ (burK 2 [] [])=5000 from rfl]
    exact decide_eq_false (by omega))]
  show (fun r3:LineR×Int=>bif !decide (r3.2=0) then (burK 2 [] [],(0:Int),(⟨0,[],[],[],[],0,0⟩:Mail),r3.2) else (fun r4:H_=>((⟨IntKind.wrap .u64 (r4.next + 1),r4.bytes,r4.rows,r4.rises⟩:H_),(burK 2 [] []).next,(⟨0,[],[],[],[],0,0⟩:Mail),(0:Int))) (T_ (burK 2 [] []) 1 r3.1)) (A1_ ⟨[]⟩ ⟨2,m.shop,m.key,m.head,m.body,m.due,m.hops⟩)=_
  rw[W4_ hc]
  rfl
theorem Xc_ {m:Mail} {tick:Int} {nt:Cw_} (h:Bv_ m=0) (hs:m.shop=[97]):I_ (burS 1 [] [] nt) m tick=(burS 2 [it 1 [97] m m.due false false] [] nt,[],1,0):=by
  unfold I_ lt
  rw[show Y_ (burS 1 [] [] nt).x.book m.shop m.key m.head=([[112]],[],0) by rw[hs];exact Vv_ _ _]
  show K_ _ m tick ([[112]],[],0) [[112]] [] 0 _=_
  unfold K_ lt
  rw[show (burS 1 [] [] nt).x.stock=burK 1 [] [] from rfl,show W_ (burK 1 [] []) [112]=(⟨[112],4,0,[100]⟩,true) from rfl]
  dsimp only
  rw[show Ho_ m.due tick 0=m.due from rfl,hs,bur_putP (show Bv_ ⟨0,[97],m.key,m.head,m.body,m.due,m.hops⟩=0 from hs ▸ h)]
  rfl
theorem Xd_ {m:Mail} {tick:Int} {nt:Cw_} (h:Bv_ m=0) (hs:m.shop=[100]):I_ (burS 2 [] [] nt) m tick=(burS 3 [] [it 2 [100] m m.due false false] nt,[],1,0):=by
  unfold I_ lt
  rw[show Y_ (burS 2 [] [] nt).x.book m.shop m.key m.head=([[122]],[],0) by rw[hs];exact Vw_ _ _]
  show K_ _ m tick ([[122]],[],0) [[122]] [] 0 _=_
  unfold K_ lt
  rw[show (burS 2 [] [] nt).x.stock=burK 2 [] [] from rfl,show W_ (burK 2 [] []) [122]=(⟨[122],4,0,[]⟩,true) from rfl]
  dsimp only
  rw[show Ho_ m.due tick 0=m.due from rfl,hs,bur_putZ (show Bv_ ⟨0,[100],m.key,m.head,m.body,m.due,m.hops⟩=0 from hs ▸ h)]
  rfl
def zit:ItemR:=⟨⟨0,[],[],[],[],0,0⟩,false,false⟩
def burD (k tick:Int) (nm:Bs) (id how:Int) (m:Mail):DeedR:=⟨k,tick,(⟨[],0,[]⟩:ShopR),(⟨[],0,0,[]⟩:E_),(⟨[],[],false,[],[],false⟩:BindR),nm,id,how,0,0,0,m,[]⟩
theorem W5_ {m:Mail} (h:Bv_ m=0):D2_ (burD 6 0 [] 0 0 m)=0:=by
  unfold D2_
  rw[show Ee_ (burD 6 0 [] 0 0 m)=burD 6 0 [] 0 0 m from rfl]
  simp only[ne_eq,not_true_eq_false,if_false]
  exact h
theorem Xb_ {m:Mail} {nt:Cw_} (h:Bv_ m=0) (hs:m.shop=[97]):O_ (burS 1 [] [] nt) (burD 6 0 [] 0 0 m)=(burS 2 [it 1 [97] m m.due false false] [] nt,⟨zit,1,0⟩,0):=by
  unfold O_ lt lt1
  rw[W5_ h]
  have hp:B2_ (burS 1 [] [] nt) (burD 6 0 [] 0 0 m)=(burS 2 [it 1 [97] m m.due false false] [] nt,⟨zit,1,0⟩,0):=by
    unfold B2_ lt
    rw[show J_ (burD 6 0 [] 0 0 m).mail=m from rfl,show (burD 6 0 [] 0 0 m).tick=0 from rfl]
    dsimp only
    rw[Xc_ h hs]
    rfl
  rw[show (burD 6 0 [] 0 0 m).kind=6 from rfl,hp]
  rfl
theorem W7_ (n:Int) (m:Mail) (due:Int) (h:0<due):R_ (burK n [it 1 [97] m due false false] []) due=([112],⟨1,[97],m.key,m.head,m.body,due,m.hops⟩,true):=by
  have hl:By_ ⟨[it 1 [97] m due false false]⟩ due=(⟨1,[97],m.key,m.head,m.body,due,m.hops⟩,true):=by
    have :B0_ ⟨[it 1 [97] m due false false]⟩ due=0:=by
      unfold B0_ idxP idxF
      rw [show D3_ (it 1 [97] m due false false) due=true by
        have h2:decide (due=0)=false:=decide_eq_false (by omega)
        have h3:decide (due<=due)=true:=decide_eq_true (by omega)
        show (!false&&(!decide (due=0) && decide (due<=due)))=true
        rw[h2,h3];rfl]
      rfl
    unfold By_ lt
    rw[this];rfl
  show (fun r:Mail×Bool=>bif r.2 then (([112]:Bs),r.1,true) else Ae_ due [⟨⟨[122],4,0,[]⟩,⟨[]⟩⟩]) (By_ ⟨[it 1 [97] m due false false]⟩ due)=_
  rw[hl];rfl
theorem V8_ {k:Bs} {hd:List Pair} {b:Bs} {due id id2 hp:Int} (h:Bv_ ⟨id,[97],k,hd,b,due,hp⟩=0) (h4:hp+1<=4):Bv_ ⟨id2,[100],k,hd,b,0,hp+1⟩=0:=by
  unfold Bv_ at h ⊢
  dsimp only at h ⊢
  rw[show Df_ [97]=0 by decide +kernel] at h
  rw[show Df_ [100]=0 by decide +kernel]
  by_cases h1:keyE [] k=0<;>by_cases h2:Er_ hd=0<;>by_cases h3:(256:Int)<b.length<;>simp[h1,h2,h3] at h ⊢ <;>omega
def burE (m:Mail) (nt:Cw_) (t:Int):B_×Int:=if m.hops=4 then (burS 2 [] [] (B1_ nt ⟨t,1,[112]⟩).1,1) else (burS 3 [] [⟨⟨2,[100],m.key,m.head,m.body,0,m.hops+1⟩,false,false⟩] nt,0)
theorem Uf_ {m:Mail} {nt:Cw_} {t due:Int} (h:Bv_ m=0) (hs:m.shop=[97]) (h0:0<=m.hops):An_ (burS 2 [] [] nt) [⟨[112],⟨1,[97],m.key,m.head,m.body,due,m.hops⟩⟩] t=burE m nt t:=by
  have h4:=(Ex_ h).2.2.2.2
  have hw:IntKind.wrap .u8 (m.hops+1)=m.hops+1:=by rw[IntKind.wrap_u8];omega
  obtain⟨f,hf⟩:∃ f,wtk (burS 2 [] [] nt).x.stock+wto [⟨[112],⟨1,[97],m.key,m.head,m.body,due,m.hops⟩⟩]=f+1:=by
    refine⟨wtk (burS 2 [] [] nt).x.stock+wto [⟨[112],⟨1,[97],m.key,m.head,m.body,due,m.hops⟩⟩]-1,?_⟩
    have :0<wtm ⟨1,[97],m.key,m.head,m.body,due,m.hops⟩:=Nat.pow_pos (by decide)
    simp only[wto,List.map_cons,List.map_nil,List.sum_cons,List.sum_nil]
    omega
  unfold An_
  rw[hf]
  unfold Ba_ lt
  rw[show decide ((0:Int)<(([⟨[112],⟨1,[97],m.key,m.head,m.body,due,m.hops⟩⟩]:List OutR).length:Int))=true from rfl,cond_true]
  rw[show gt ([⟨[112],⟨1,[97],m.key,m.head,m.body,due,m.hops⟩⟩]:List OutR) 0=⟨[112],⟨1,[97],m.key,m.head,m.body,due,m.hops⟩⟩ from rfl]
  dsimp only
  rw[show W_ (burS 2 [] [] nt).x.stock [112]=(⟨[112],4,0,[100]⟩,true) from rfl]
  dsimp only
  rw[show decide (([100]:Bs)=[])=false by decide,cond_false,show J_ ⟨1,[97],m.key,m.head,m.body,due,m.hops⟩=⟨1,[97],m.key,m.head,m.body,due,m.hops⟩ from rfl]
  dsimp only
  rw[hw]
  unfold burE
  by_cases e:m.hops=4
  · rw[if_pos e,decide_eq_true (show 4<m.hops+1 by omega),Bool.true_or,cond_true]
    rfl
  · rw[if_neg e,decide_eq_false (show ¬4<m.hops+1 by omega),Bool.false_or]
    have hm:Bv_ m=Bv_ ⟨0,[97],m.key,m.head,m.body,due,m.hops⟩:=by rw[<- hs];rfl
    have hd:=V8_ (id2:=1) (hm ▸ h) (show m.hops+1<=4 by omega)
    rw[Xd_ hd rfl]
    rfl
theorem Vx_ {m:Mail} {nt:Cw_} {due:Int} (h:Bv_ m=0) (hs:m.shop=[97]) (h0:0<=m.hops):O_ (burS 2 [it 1 [97] m due true false] [] nt) (burD 8 0 [112] 1 1 ⟨0,[],[],[],[],0,0⟩)=((burE m nt 0).1,⟨zit,0,(burE m nt 0).2⟩,0):=by
  unfold O_ lt lt1
  rw[show D2_ (burD 8 0 [112] 1 1 ⟨0,[],[],[],[],0,0⟩)=0 by decide +kernel]
  have hp:A5_ (burS 2 [it 1 [97] m due true false] [] nt) (burD 8 0 [112] 1 1 ⟨0,[],[],[],[],0,0⟩)=((burE m nt 0).1,⟨zit,0,(burE m nt 0).2⟩,0):=by
    unfold A5_ lt
    rw[show Cs_ (burS 2 [it 1 [97] m due true false] [] nt).x.stock (burD 8 0 [112] 1 1 ⟨0,[],[],[],[],0,0⟩).name (burD 8 0 [112] 1 1 ⟨0,[],[],[],[],0,0⟩).id=(burK 2 [it 1 [97] m due false true] [],0) from rfl]
    rw[show V_ (burS 2 [it 1 [97] m due true false] [] nt).x.stock (burD 8 0 [112] 1 1 ⟨0,[],[],[],[],0,0⟩).name (burD 8 0 [112] 1 1 ⟨0,[],[],[],[],0,0⟩).id=(burK 2 [] [],it 1 [97] m due true false,0) from rfl]
    rw[<- Uf_ h hs h0 (due:=due)]
    rfl
  rw[show (burD 8 0 [112] 1 1 ⟨0,[],[],[],[],0,0⟩).kind=8 from rfl,hp]
  rfl
theorem W9_ {m:Mail} {nt:Cw_} {due:Int}:O_ (burS 2 [it 1 [97] m due false false] [] nt) (burD 7 0 [112] 0 0 ⟨0,[],[],[],[],0,0⟩)=(burS 2 [it 1 [97] m due true false] [] nt,⟨it 1 [97] m due true false,0,0⟩,0):=by
  unfold O_ lt lt1
  rw[show D2_ (burD 7 0 [112] 0 0 ⟨0,[],[],[],[],0,0⟩)=0 by decide +kernel]
  rfl
theorem W6_ (t:Int):D2_ (burD 9 t [] 0 0 ⟨0,[],[],[],[],0,0⟩)=0:=by
  unfold D2_
  rw[show Ee_ (burD 9 t [] 0 0 ⟨0,[],[],[],[],0,0⟩)=burD 9 t [] 0 0 ⟨0,[],[],[],[],0,0⟩ from rfl]
  simp only[ne_eq,not_true_eq_false,if_false]
  rfl
theorem W8_ {m:Mail} {nt:Cw_} {due:Int} (h:Bv_ m=0) (hs:m.shop=[97]) (h0:0<=m.hops) (hd:0<due):O_ (burS 2 [it 1 [97] m due false false] [] nt) (burD 9 due [] 0 0 ⟨0,[],[],[],[],0,0⟩)=((burE m nt due).1,⟨zit,1,(burE m nt due).2⟩,0):=by
  unfold O_ lt lt1
  rw[W6_]
  have hp:Db_ (burS 2 [it 1 [97] m due false false] [] nt) due=((burE m nt due).1,⟨zit,1,(burE m nt due).2⟩):=by
    show Az_ due 2 [] (burS 2 [it 1 [97] m due false false] [] nt)=_
    unfold Az_ lt
    rw[show R_ (burS 2 [it 1 [97] m due false false] [] nt).x.stock due=([112],⟨1,[97],m.key,m.head,m.body,due,m.hops⟩,true) from W7_ 2 m due hd]
    dsimp only
    rw[show V_ (burS 2 [it 1 [97] m due false false] [] nt).x.stock [112] 1=(burK 2 [] [],it 1 [97] m due false false,0) from rfl]
    show Az_ due 1 [⟨[112],⟨1,[97],m.key,m.head,m.body,due,m.hops⟩⟩] (burS 2 [] [] nt)=_
    unfold Az_ lt
    rw[show R_ (burS 2 [] [] nt).x.stock due=([],⟨0,[],[],[],[],0,0⟩,false) from rfl]
    rw[Uf_ h hs h0 (due:=due)]
    rfl
  rw[show (burD 9 due [] 0 0 ⟨0,[],[],[],[],0,0⟩).kind=9 from rfl,show (burD 9 due [] 0 0 ⟨0,[],[],[],[],0,0⟩).tick=due from rfl,hp]
  rfl
def burF (x:Mail) (e_1:Int) (x1:B_) (x2:X_):Bool:=
 lt (Ed_ x1) fun r5=>
 lt (B5_ r5.stock [122]) fun r6=>
 lt (Fw_ r6) fun r7=>
 (bif ((!decide (e_1=0))||(!decide ((Eh_ (B5_ r5.stock [112]))=0))) then
 false
 else (bif decide (x.hops=4) then
 (((decide (x2.lost=1))&&(decide ((r7.length:Int)=0)))&&(decide ((Eb_ r5.notes)=1)))
 else (((((((decide (x2.lost=0))&&(decide ((r7.length:Int)=1)))&&(decide (((gt r7 0).mail.hops)=(IntKind.wrap .u8 (x.hops+1)))))&&(decide (((gt r7 0).mail.due)=0)))&&(decide (((gt r7 0).mail.shop)=[100])))&&(decide (((gt r7 0).mail.body)=x.body)))&&(decide (((gt r7 0).mail.key)=x.key)))))
theorem Qp_ {x:Mail} {t c:Int} (h:Bv_ x=0) (h0:0<=x.hops):burF x 0 (burE x ⟨0,[]⟩ t).1 ⟨zit,c,(burE x ⟨0,[]⟩ t).2⟩=true:=by
  have h4:=(Ex_ h).2.2.2.2
  have hw:IntKind.wrap .u8 (x.hops+1)=x.hops+1:=by rw[IntKind.wrap_u8];omega
  unfold burE burF lt
  rw[hw]
  by_cases e:x.hops=4
  · rw[if_pos e,decide_eq_true e]
    rfl
  · rw[if_neg e,decide_eq_false e]
    show ((((((true&&true)&&(decide (x.hops+1=x.hops+1)))&&true)&&true)&&(decide (x.body=x.body)))&&(decide (x.key=x.key)))=true
    simp
def burG (r3:B_×X_×Int):Lo (Int×B_×X_) Bool:=bif ((!decide (r3.2.2=0))||(!r3.2.1.item.lent)) then .ret false else lt (O_ r3.1 (burD 8 0 [112] r3.2.1.item.mail.id 1 ⟨0,[],[],[],[],0,0⟩)) fun r4=> .fin (r4.2.2,r4.1,r4.2.1)
theorem burG_ok {m:Mail} {nt:Cw_} {due:Int} (h:Bv_ m=0) (hs:m.shop=[97]) (h0:0<=m.hops):burG (burS 2 [it 1 [97] m due true false] [] nt,⟨it 1 [97] m due true false,0,0⟩,0) = .fin (0,(burE m nt 0).1,⟨zit,0,(burE m nt 0).2⟩):=by
  unfold burG lt
  dsimp only
  rw[show (!decide ((0:Int)=0))=false from rfl,show (!(it 1 [97] m due true false).lent)=false from rfl,Bool.false_or,cond_false]
  rw[show (it 1 [97] m due true false).mail.id=1 from rfl,Vx_ h hs h0]
def burH (late:Bool) (x:Mail) (r1:B_×X_×Int):Bool:=bif ((!decide (r1.2.2=0))||(!decide (r1.2.1.count=1))) then false else lp3 (bif late then lt (O_ r1.1 (burD 9 x.due [] 0 0 ⟨0,[],[],[],[],0,0⟩)) fun r2=> .fin (r2.2.2,r2.1,r2.2.1) else lt (O_ r1.1 (burD 7 0 [112] 0 0 ⟨0,[],[],[],[],0,0⟩)) burG) (burF x) (fun r=>r)
theorem Qq_ {x:Mail} (hx:Bv_ x=0) (hs:x.shop=[97]) (h0:0<=x.hops) (late:Bool) (hd:late=true->0<x.due):burH late x (burS 2 [it 1 [97] x x.due false false] [] ⟨0,[]⟩,⟨zit,1,0⟩,0)=true:=by
  unfold burH lt
  dsimp only
  rw[show (!decide ((0:Int)=0))=false from rfl,show (!decide ((1:Int)=1))=false from rfl,Bool.false_or,cond_false]
  cases late with
  |true=>
    rw[cond_true,W8_ hx hs h0 (hd rfl)]
    exact Qp_ hx h0
  |false=>
    rw[cond_false,W9_,burG_ok hx hs h0]
    exact Qp_ hx h0
theorem Qs_:I7_=true:=by decide +kernel
theorem law23_buries (m:Mail) (tick:Int) (late:Bool) (h0:0<=m.hops):E2_ m tick late=true:=by
  unfold E2_
  rw[Qs_,Bool.not_true,cond_false]
  cases hLm:Lo_ m with
  |false=>rfl
  |true=>
    rw[Bool.not_true,cond_false]
    unfold lt
    generalize hq:Fu_ _=q
    obtain rfl :q=(burS 1 [] [] ⟨0,[]⟩,true):=hq.symm.trans Xa_
    dsimp only
    rw[Bool.not_true,Bool.false_or]
    by_cases hm:Bv_ ⟨m.id,[97],m.key,m.head,m.body,m.due,m.hops⟩=0
    · rw[decide_eq_true hm,Bool.not_true,cond_false]
      show (fun x=>burH late x (O_ (burS 1 [] [] ⟨0,[]⟩) (burD 6 0 [] 0 0 x))) (bif late then ⟨m.id,[97],m.key,m.head,m.body,max tick 1,m.hops⟩ else ⟨m.id,[97],m.key,m.head,m.body,0,m.hops⟩)=true
      cases late with
      |true=>
        dsimp only[cond_true]
        rw[Xb_ (show Bv_ ⟨m.id,[97],m.key,m.head,m.body,max tick 1,m.hops⟩=0 from hm) rfl]
        exact Qq_ (x:=⟨m.id,[97],m.key,m.head,m.body,max tick 1,m.hops⟩) hm rfl h0 true fun _=>by dsimp only;omega
      |false=>
        dsimp only[cond_false]
        rw[Xb_ (show Bv_ ⟨m.id,[97],m.key,m.head,m.body,0,m.hops⟩=0 from hm) rfl]
        exact Qq_ (x:=⟨m.id,[97],m.key,m.head,m.body,0,m.hops⟩) hm rfl h0 false fun h=>by cases h
    · rw[decide_eq_false hm];rfl
end Go.SW.V
