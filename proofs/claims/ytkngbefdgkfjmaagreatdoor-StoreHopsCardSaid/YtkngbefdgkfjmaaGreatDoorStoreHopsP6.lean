/-
  A part of the proof of StoreHops: The walks of this seat, printed by program: store.Store.bury, store.Store.settle, store.Store.late, store.Store.pull, store.Store.put, store.Store.Do.
-/
import Derived.Test.YtkngbefdgkfjmaaGreatDoorProg
import Derived.Test.YtkngbefdgkfjmaaGreatDoorStoreHopsP3
import Derived.KernelRfl
import Derived.Test.YtkngbefdgkfjmaaGreatDoorStoreHopsP5
import Derived.Test.YtkngbefdgkfjmaaGreatDoorStoreHopsP4
set_option linter.unusedVariables false
set_option linter.unusedSimpArgs false
set_option maxRecDepth 100000
set_option maxHeartbeats 4000000
namespace Go.SW.V
open Go.SW Go.Proofs
abbrev R19_:(D_×ItemR×Int)->PV:=fun r=> .tup [.agg (D_.pc r.1), .agg (ItemR.pc r.2.1), .int .i64 r.2.2]
abbrev R20_:(Bs×Mail×Bool)->PV:=fun r=> .tup [.str r.1, .agg (Mail.pc r.2.1), .bool r.2.2]
abbrev R21_:B_->PV:=fun r=> .agg (B_.pc r)
abbrev R22_:(B_×Q_×Int)->PV:=fun r=> .tup [.agg (B_.pc r.1), .agg (Q_.pc r.2.1), .int .i64 r.2.2]
abbrev R23_:(B_×Q_)->PV:=fun r=> .tup [.agg (B_.pc r.1), .agg (Q_.pc r.2)]
theorem cb119:Z_ Tryz.prog 119:=W_ Tryz.func119 (by kernel_rfl) (by kernel_rfl)
theorem Zh_:Fld Tryz.prog 230 0 0:=fun b o w=>by kernel_rfl
theorem fl230_1:Fld Tryz.prog 230 1 1:=fun b o w=>by kernel_rfl
theorem sz36:Sz Tryz.prog 36 1:=fun w=>by kernel_rfl
def tbv98:Tb:=[(3,ty3),(5,ty5),(9,ty9),(22,ty22),(26,ty26),(36,ty36),(43,ty43),(46,ty46),(52,ty52),(54,ty54),(60,ty60),(65,ty65),(67,ty67),(75,ty75),(77,ty77),(94,ty94),(160,Yh_),(216,ty216),(230,ty230)]
theorem tv98:tbB Tryz.prog tbv98=true:=by kernel_rfl
theorem Eu_ (s:B_) (gone:List OutR) (tick:Int) (hs:StOk s:=by assumption) (hg:gone.length<=600/\∀ g∈gone,MlOk g.mail:=by first|assumption|exact⟨by omega,by assumption⟩):Fx Tryz.prog gb 119 (.agg (B_.pc s)) [.int .u64 tick] (.tup [.agg (B_.pc ((At_ s gone tick).1)), .int .i64 ((At_ s gone tick).2)]) 8 230 OutR.pc gone:=by
  refine fx_cw tv98 Tryz.func119 rfl Tryz.ntmps119 rfl cb119 rfl rfl fun w gone_l u0 N H hG=>?_;have s_x_book_shops_l:s.x.book.shops.length<=140737488355328:=w.1.1.1;have s_x_book_binds_l:s.x.book.binds.length<=140737488355328:=w.1.2.1.1;have s_x_stock_next_r:0<=s.x.stock.next /\ s.x.stock.next <= 18446744073709551615:=w.1.2.2.1;have s_x_stock_bytes_r:-9223372036854775808<=s.x.stock.bytes/\s.x.stock.bytes<=9223372036854775807:=w.1.2.2.2.1;have s_x_stock_rows_l:s.x.stock.rows.length<=140737488355328:=w.1.2.2.2.2.1.1;have s_x_notes_total_r:0<=s.x.notes.total/\s.x.notes.total<=18446744073709551615:=w.1.2.2.2.2.2.2.2.2.2.2.2.2.2.2.2.2.2.2.2.2.2.2.2.2.2.2.2.2.2.2.2.2.2.2.2.2.2.1;have s_x_notes_kept_l:s.x.notes.kept.length<=140737488355328:=w.1.2.2.2.2.2.2.2.2.2.2.2.2.2.2.2.2.2.2.2.2.2.2.2.2.2.2.2.2.2.2.2.2.2.2.2.2.2.2.1.1;have s_x_seen_e0_r:0<=s.x.seen.e0/\s.x.seen.e0<=18446744073709551615:=w.1.2.2.2.2.2.2.2.2.2.2.2.2.2.2.2.2.2.2.2.2.2.2.2.2.2.2.2.2.2.2.2.2.2.2.2.2.2.2.2.1;have s_x_seen_e1_r:0<=s.x.seen.e1/\s.x.seen.e1<=18446744073709551615:=w.1.2.2.2.2.2.2.2.2.2.2.2.2.2.2.2.2.2.2.2.2.2.2.2.2.2.2.2.2.2.2.2.2.2.2.2.2.2.2.2.2.1;have s_x_seen_e2_r:0<=s.x.seen.e2/\s.x.seen.e2<=18446744073709551615:=w.1.2.2.2.2.2.2.2.2.2.2.2.2.2.2.2.2.2.2.2.2.2.2.2.2.2.2.2.2.2.2.2.2.2.2.2.2.2.2.2.2.2.1;have s_x_seen_e3_r:0<=s.x.seen.e3/\s.x.seen.e3<=18446744073709551615:=w.1.2.2.2.2.2.2.2.2.2.2.2.2.2.2.2.2.2.2.2.2.2.2.2.2.2.2.2.2.2.2.2.2.2.2.2.2.2.2.2.2.2.2.1;have s_x_seen_e4_r:0<=s.x.seen.e4/\s.x.seen.e4<=18446744073709551615:=w.1.2.2.2.2.2.2.2.2.2.2.2.2.2.2.2.2.2.2.2.2.2.2.2.2.2.2.2.2.2.2.2.2.2.2.2.2.2.2.2.2.2.2.2.1;have s_x_seen_e5_r:0<=s.x.seen.e5/\s.x.seen.e5<=18446744073709551615:=w.1.2.2.2.2.2.2.2.2.2.2.2.2.2.2.2.2.2.2.2.2.2.2.2.2.2.2.2.2.2.2.2.2.2.2.2.2.2.2.2.2.2.2.2.2.1;have s_x_seen_e6_r:0<=s.x.seen.e6/\s.x.seen.e6<=18446744073709551615:=w.1.2.2.2.2.2.2.2.2.2.2.2.2.2.2.2.2.2.2.2.2.2.2.2.2.2.2.2.2.2.2.2.2.2.2.2.2.2.2.2.2.2.2.2.2.2.1;have s_x_seen_e7_r:0<=s.x.seen.e7/\s.x.seen.e7<=18446744073709551615:=w.1.2.2.2.2.2.2.2.2.2.2.2.2.2.2.2.2.2.2.2.2.2.2.2.2.2.2.2.2.2.2.2.2.2.2.2.2.2.2.2.2.2.2.2.2.2.2.1;have s_x_seen_e8_r:0<=s.x.seen.e8/\s.x.seen.e8<=18446744073709551615:=w.1.2.2.2.2.2.2.2.2.2.2.2.2.2.2.2.2.2.2.2.2.2.2.2.2.2.2.2.2.2.2.2.2.2.2.2.2.2.2.2.2.2.2.2.2.2.2.2.1;have s_x_seen_e9_r:0<=s.x.seen.e9/\s.x.seen.e9<=18446744073709551615:=w.1.2.2.2.2.2.2.2.2.2.2.2.2.2.2.2.2.2.2.2.2.2.2.2.2.2.2.2.2.2.2.2.2.2.2.2.2.2.2.2.2.2.2.2.2.2.2.2.2.1;have s_x_seen_e10_r:0<=s.x.seen.e10/\s.x.seen.e10<=18446744073709551615:=w.1.2.2.2.2.2.2.2.2.2.2.2.2.2.2.2.2.2.2.2.2.2.2.2.2.2.2.2.2.2.2.2.2.2.2.2.2.2.2.2.2.2.2.2.2.2.2.2.2.2.1;have s_x_seen_e11_r:0<=s.x.seen.e11/\s.x.seen.e11<=18446744073709551615:=w.1.2.2.2.2.2.2.2.2.2.2.2.2.2.2.2.2.2.2.2.2.2.2.2.2.2.2.2.2.2.2.2.2.2.2.2.2.2.2.2.2.2.2.2.2.2.2.2.2.2.2.1;have s_x_seen_e12_r:0<=s.x.seen.e12/\s.x.seen.e12<=18446744073709551615:=w.1.2.2.2.2.2.2.2.2.2.2.2.2.2.2.2.2.2.2.2.2.2.2.2.2.2.2.2.2.2.2.2.2.2.2.2.2.2.2.2.2.2.2.2.2.2.2.2.2.2.2.2.1;have s_x_seen_e13_r:0<=s.x.seen.e13/\s.x.seen.e13<=18446744073709551615:=w.1.2.2.2.2.2.2.2.2.2.2.2.2.2.2.2.2.2.2.2.2.2.2.2.2.2.2.2.2.2.2.2.2.2.2.2.2.2.2.2.2.2.2.2.2.2.2.2.2.2.2.2.2.1;have s_x_seen_e14_r:0<=s.x.seen.e14/\s.x.seen.e14<=18446744073709551615:=w.1.2.2.2.2.2.2.2.2.2.2.2.2.2.2.2.2.2.2.2.2.2.2.2.2.2.2.2.2.2.2.2.2.2.2.2.2.2.2.2.2.2.2.2.2.2.2.2.2.2.2.2.2.2.1;have s_x_seen_e15_r:0<=s.x.seen.e15/\s.x.seen.e15<=18446744073709551615:=w.1.2.2.2.2.2.2.2.2.2.2.2.2.2.2.2.2.2.2.2.2.2.2.2.2.2.2.2.2.2.2.2.2.2.2.2.2.2.2.2.2.2.2.2.2.2.2.2.2.2.2.2.2.2.2.1;have s_policy_work_r:-9223372036854775808<=s.policy.work/\s.policy.work<=9223372036854775807:=w.1.2.2.2.2.2.2.2.2.2.2.2.2.2.2.2.2.2.2.2.2.2.2.2.2.2.2.2.2.2.2.2.2.2.2.2.2.2.2.2.2.2.2.2.2.2.2.2.2.2.2.2.2.2.2.2.2.2.2.2.2.2.2.2.2.2.2.2.2.2.2.2.1;have s_policy_give_r:-9223372036854775808<=s.policy.give/\s.policy.give<=9223372036854775807:=w.1.2.2.2.2.2.2.2.2.2.2.2.2.2.2.2.2.2.2.2.2.2.2.2.2.2.2.2.2.2.2.2.2.2.2.2.2.2.2.2.2.2.2.2.2.2.2.2.2.2.2.2.2.2.2.2.2.2.2.2.2.2.2.2.2.2.2.2.2.2.2.2.2.1;have s_policy_places_l:s.policy.places.length<=140737488355328:=w.1.2.2.2.2.2.2.2.2.2.2.2.2.2.2.2.2.2.2.2.2.2.2.2.2.2.2.2.2.2.2.2.2.2.2.2.2.2.2.2.2.2.2.2.2.2.2.2.2.2.2.2.2.2.2.2.2.2.2.2.2.2.2.2.2.2.2.2.2.2.2.2.2.2.1.1;have s_policy_slots_l:s.policy.slots.length<=140737488355328:=w.1.2.2.2.2.2.2.2.2.2.2.2.2.2.2.2.2.2.2.2.2.2.2.2.2.2.2.2.2.2.2.2.2.2.2.2.2.2.2.2.2.2.2.2.2.2.2.2.2.2.2.2.2.2.2.2.2.2.2.2.2.2.2.2.2.2.2.2.2.2.2.2.2.2.2.1.1;have s_policy_grants_l:s.policy.grants.length<=140737488355328:=w.1.2.2.2.2.2.2.2.2.2.2.2.2.2.2.2.2.2.2.2.2.2.2.2.2.2.2.2.2.2.2.2.2.2.2.2.2.2.2.2.2.2.2.2.2.2.2.2.2.2.2.2.2.2.2.2.2.2.2.2.2.2.2.2.2.2.2.2.2.2.2.2.2.2.2.2.1.1;have s_place_r:-9223372036854775808<=s.place/\s.place<=9223372036854775807:=w.1.2.2.2.2.2.2.2.2.2.2.2.2.2.2.2.2.2.2.2.2.2.2.2.2.2.2.2.2.2.2.2.2.2.2.2.2.2.2.2.2.2.2.2.2.2.2.2.2.2.2.2.2.2.2.2.2.2.2.2.2.2.2.2.2.2.2.2.2.2.2.2.2.2.2.2.2.1;have tick_r:0<=tick/\tick<=18446744073709551615:=w.2.1;have hs0:=hs;obtain⟨⟨⟨hb1,hb2,hb3⟩,hk0,hn,hu⟩,hp0,hq1,hq2⟩:=hs0;have hpp:=hp0;obtain⟨hp1,hp2,hp3,hp4,hp5,hp6,hp7⟩:=hpp;have hk1:=hk0;obtain⟨⟨hr1,hr2,hr3⟩,hr4,hr5,hr6⟩:=hk1;have hgg:=hg;obtain⟨hg1,hg2⟩:=hgg;have e0:=At_.eq_1 s gone tick;refine gm tv98 14 [1,2] fun B2=>?_;refine loop (ι:=Nat×(List OutR)×Int×B_×Value) [2,3,6,7] [2] (fun ⟨f,gone1,lost,x,u_gone1⟩=>[(1, .osl 0),(8, .int .i64 lost)]) (fun ⟨f,gone1,lost,x,u_gone1⟩=>[(0, .arr u_gone1 8 230 OutR.pc gone1),(1, .box (B2 0) 54 (B_.pc x))]) (fun ⟨f,gone1,lost,x,u_gone1⟩=>wtk x.x.stock+wto gone1<f/\At_ s gone tick=A9_ tick f gone1 lost x/\Nn_ gone1 lost x) (fun ⟨f,gone1,lost,x,u_gone1⟩=>f) ⟨(wtk s.x.stock+wto gone+1),gone,0,s,(u0)⟩ ⟨rfl,rfl,trivial⟩ ⟨rfl,rfl,trivial⟩ ?_ ?_
  · exact⟨Nat.lt_succ_self _,e0,Yv_ (by assumption) (by assumption)⟩
  rintro⟨f,gone1,lost,x,u_gone1⟩ ⟨hp4_1,hp4_2,hp4_3⟩;have hI:=hp4_3;obtain⟨hi1,hi2,hi3,hi4⟩:=hp4_3;obtain⟨f1,rfl⟩:∃ q,f=q+1:=⟨f-1,by omega⟩;have e_f1:=hp4_2.trans (A9_.eq_2 _ _ _ _ _);refine gx tv98 8 ?_;refine cD e_f1 (fun p6 e7=>?_) (fun p64 e65=>?_)
  · refine gx tv98 5 ?_;refine Hr_ (ι:=Nat) [1,2,3,6,7,8] [0,1,2] (fun b8=>[(9, .own 3 b8 0)]) (fun b8=>[(3, .box b8 60 (QueueR.pc ((Ad_ x.x.stock ((gt gone1 0).queue)).1)))]) (fun b8=>PV.wf (.tup [.agg (QueueR.pc ((Ad_ x.x.stock ((gt gone1 0).queue)).1)), .bool ((Ad_ x.x.stock ((gt gone1 0).queue)).2)])) ?_ ?_
    · refine aN [3,4,5,6,7,8,9,10] 14 mixd ?_;refine gX tv98 [0,1,2,3] 10 ?_;refine vq 4 (eidx 0 tv98 rfl rfl rfl rfl rfl rfl rfl rfl (by omega)) rfl (by kernel_rfl) rfl fun w9=>?_;refine vq 5 (efld rfl Zh_) rfl (by kernel_rfl) rfl fun w10=>?_;refine veL 6 [11] (by kernel_rfl) ⟨⟨_,rfl,?_⟩,⟨_,rfl,?_⟩,trivial⟩
      · have hc11:=getG (xs:=gone1) (k:=0) (by omega);have hz_hc11:=hi2 (gt gone1 0) (List.mem_of_getElem? hc11);have hy_hc11:=And.intro hz_hc11.1 hz_hc11.2.2.2;refine ej rfl (elod1 (i:=0) (.str ((gt gone1 0).queue)) 0 0 tv98 rfl rfl rfl rfl hc11 rfl rfl rfl rfl fun w12=>?_);refine vC 7 rfl (Do_ x.x.stock _) rfl fun w13=>?_;refine gX tv98 [8,9,10] 3 ?_;refine vE 11 rfl (aL tv98 3 fun b14=>?_);refine vE 12 rfl (sA tv98 ?_);refine gX tv98 [13] 0 ?_;refine vD ?_;refine nX (b14) ?_ ⟨rfl,trivial⟩ ⟨rfl,trivial⟩;exact w13
      refine ej rfl (aL tv98 3 fun b15=>?_);have hc16:=getG (xs:=gone1) (k:=0) (by omega);have hz_hc16:=hi2 (gt gone1 0) (List.mem_of_getElem? hc16);have hy_hc16:=And.intro hz_hc16.1 hz_hc16.2.2.2;refine vE 6 rfl (elod1 (i:=0) (.str ((gt gone1 0).queue)) 0 0 tv98 rfl rfl rfl rfl hc16 rfl rfl rfl rfl fun w17=>?_);refine vC 7 rfl (Do_ x.x.stock _) rfl fun w18=>?_;refine gX tv98 [8,9,10] 2 ?_;refine vE 12 rfl (sA tv98 ?_);refine gX tv98 [13] 0 ?_;refine vD ?_;refine nX (b15) ?_ ⟨rfl,trivial⟩ ⟨rfl,trivial⟩;exact w18
    generalize hr19:Ad_ x.x.stock ((gt gone1 0).queue)=r;rintro b8 w20;have e21:=e7.trans (Ge_ hr19.symm);refine gx tv98 9 ?_;refine cD e21 (fun p23 e24=>?_) (fun p26 e27=>?_)
    · refine gx tv98 6 ?_;refine ef (ecut1 tv98 rfl rfl rfl rfl rfl rfl rfl rfl (by omega) (by first|omega|(simp only[List.length_append];omega)) rfl fun u25=>?_);refine gx tv98 2 ?_;refine next ⟨f1,(gone1.drop 1),lost,x,(u25)⟩ rfl rfl ⟨rfl,rfl,trivial⟩ ⟨rfl,rfl,trivial⟩ ?_ ?_
      · (try simp only[]);omega
      exact⟨(by first|exact Pn_ (by omega) (by omega)|exact Sk_ (by assumption) (by omega) (by omega)|exact Po_ (m:=_) (by omega) (by omega) (by first|assumption|exact Eq.symm (by assumption)) (by assumption) (by assumption) (by assumption) rfl (by assumption)),e24,(by first|exact Nq_ (by assumption) (by omega)|exact Nr_ (by assumption) (by assumption) (by assumption) (by omega)|exact Ns_ (m:=_) (by assumption) (by assumption) (by assumption) (by omega) (by first|assumption|exact Eq.symm (by assumption)) (by assumption) (by assumption) (by assumption) rfl (by assumption))⟩
    refine gx tv98 5 ?_;refine q1 (eidx 0 tv98 rfl rfl rfl rfl rfl rfl rfl rfl (by omega)) rfl fun w28=>?_;refine q1 (efld rfl fl230_1) rfl fun w29=>?_;have hc30:=getG (xs:=gone1) (k:=0) (by omega);have hz_hc30:=hi2 (gt gone1 0) (List.mem_of_getElem? hc30);have hy_hc30:=And.intro hz_hc30.1 hz_hc30.2.2.2;refine ef (elodA (i:=0) [.int .u64 ((gt gone1 0).mail.id), .str ((gt gone1 0).mail.shop), .str ((gt gone1 0).mail.key), .sl Pair.pc ((gt gone1 0).mail.head), .str ((gt gone1 0).mail.body), .int .u64 ((gt gone1 0).mail.due), .int .u8 ((gt gone1 0).mail.hops)] 0 1 tv98 rfl rfl rfl rfl rfl hc30 rfl rfl (by decide) rfl fun w31=>?_);refine cV e27 R1_ (En_ _) rfl fun r1 hr32 e34 w33=>?_;have hA34:=Sn_ ((gt gone1 0).mail)
    (try rw[<- hr32] at hA34)
    have :=wr_u8 (r1.hops+1);refine gm tv98 28 [4] fun B37=>?_;refine ef (ecallo 5 (D7_ _ (⟨r1.id,(r.1).dead,r1.key,r1.head,r1.body,0,(IntKind.wrap .u8 (r1.hops+1))⟩:Mail) _ (hm:=by dsimp only;exact⟨by omega,by omega⟩)) rfl rfl ?_);generalize hr40:J_ x (⟨r1.id,(r.1).dead,r1.key,r1.head,r1.body,0,(IntKind.wrap .u8 (r1.hops+1))⟩:Mail) tick=r2;intro u39 w38;have e41:=e34.trans (Ge_ hr40.symm);have hr40:=hr40.symm
    (try have hA41:=I9_ (s:=x) (m:=(⟨r1.id,(r.1).dead,r1.key,r1.head,r1.body,0,(IntKind.wrap .u8 (r1.hops+1))⟩:Mail)) (tick:=tick) (by first|assumption|exact Bt_ (by assumption)) (by (try dsimp only);first|omega|exact Jb_ _);(try rw[<- hr40] at hA41);obtain⟨hA41_0,hA41_1,hA41_2⟩:=hA41)
    (try have hA42:=I8_ (s:=x) (m:=(⟨r1.id,(r.1).dead,r1.key,r1.head,r1.body,0,(IntKind.wrap .u8 (r1.hops+1))⟩:Mail)) (tick:=tick) (by first|assumption|exact Bt_ (by assumption));(try rw[<- hr40] at hA42))
    refine gmy tv98 24 [6] fun B45=>?_;refine cE e41 (fun h46 e47=>?_) (fun h46 e61=>?_)
    · refine gx tv98 1 ?_;refine aN [7,8,9,10,11,12] 8 mixd ?_;refine gX tv98 [0,1,2] 5 ?_;refine vq 3 (eidx 0 tv98 rfl rfl rfl rfl rfl rfl rfl rfl (by omega)) rfl (by kernel_rfl) rfl fun w48=>?_;refine vq 4 (efld rfl Zh_) rfl (by kernel_rfl) rfl fun w49=>?_;refine vE 5 rfl (elod1 (i:=0) (.str ((gt gone1 0).queue)) 0 0 tv98 rfl rfl rfl rfl hc30 rfl rfl rfl rfl fun w50=>?_);refine vE 6 rfl (eC (D6_ x _ _ _ (hn:=by exact st_nts (by first|assumption|exact Bt_ (by assumption)))) rfl ?_);generalize hr52:A2_ x tick 1 ((gt gone1 0).queue)=r3;intro w51;have e53:=e47.trans (Ge_ hr52.symm);have hr52:=hr52.symm
      (try have hA53:=Ha_ (s:=x) (t:=tick) (k:=1) (x:=((gt gone1 0).queue)) (by first|assumption|exact Bt_ (by assumption));(try rw[<- hr52] at hA53);obtain⟨hA53_0,hA53_1⟩:=hA53)
      refine vT 7 rfl (sA tv98 ?_);refine vD ?_;refine gy tv98 14 ?_;refine ef (ecut1 tv98 rfl rfl rfl rfl rfl rfl rfl rfl (by omega) (by first|omega|(simp only[List.length_append];omega)) rfl fun u55=>?_);refine gx tv98 2 ?_;refine next ⟨f1,(gone1.drop 1),(lost+1),r3,(u55)⟩ rfl rfl ⟨rfl,rfl,trivial⟩ ⟨rfl,rfl,trivial⟩ ?_ ?_
      · (try simp only[]);omega
      exact⟨(by first|exact Pn_ (by omega) (by omega)|exact Sk_ (by assumption) (by omega) (by omega)|exact Po_ (m:=_) (by omega) (by omega) (by first|assumption|exact Eq.symm (by assumption)) (by assumption) (by assumption) (by assumption) rfl (by assumption)),e53,(by first|exact Nq_ (by assumption) (by omega)|exact Nr_ (by assumption) (by assumption) (by assumption) (by omega)|exact Ns_ (m:=_) (by assumption) (by assumption) (by assumption) (by omega) (by first|assumption|exact Eq.symm (by assumption)) (by assumption) (by assumption) (by assumption) rfl (by assumption))⟩
    have h56:=orl h46;have p57:=df h56;have h58:=orr h46;have h59:=Co_ h58;have p60:=dt h59;refine gx tv98 2 ?_;refine sw_osl (t:=13) 5 rfl rfl ?_;refine aN [0,1,7,8,9,10,11,12] 6 mixd ?_;refine gX tv98 [0,1,2] 3 ?_;refine vE 3 rfl (app tv98 r2.2.1 rfl rfl rfl rfl rfl rfl rfl rfl rfl (src_o rfl rfl) (by have :=app_fit (by assumption) (by assumption) (by assumption);(try dsimp only);omega) rfl fun u62=>?_);refine vtp 4 rfl (by kernel_rfl) (by kernel_rfl) (sA tv98 ?_);refine gX tv98 [5] 0 ?_;refine vD ?_;refine gx tv98 4 ?_;refine ef (ecut1 tv98 rfl rfl rfl rfl rfl rfl rfl rfl (by omega) (by first|omega|(simp only[List.length_append];omega)) rfl fun u63=>?_);refine gx tv98 2 ?_;refine next ⟨f1,((gone1++r2.2.1).drop 1),lost,r2.1,(u63)⟩ rfl rfl ⟨rfl,rfl,trivial⟩ ⟨rfl,rfl,trivial⟩ ?_ ?_
    · (try simp only[]);omega
    exact⟨(by first|exact Pn_ (by omega) (by omega)|exact Sk_ (by assumption) (by omega) (by omega)|exact Po_ (m:=_) (by omega) (by omega) (by first|assumption|exact Eq.symm (by assumption)) (by assumption) (by assumption) (by assumption) rfl (by assumption)),e61,(by first|exact Nq_ (by assumption) (by omega)|exact Nr_ (by assumption) (by assumption) (by assumption) (by omega)|exact Ns_ (m:=_) (by assumption) (by assumption) (by assumption) (by omega) (by first|assumption|exact Eq.symm (by assumption)) (by assumption) (by assumption) (by assumption) rfl (by assumption))⟩
  refine gm tv98 14 [] fun _=>?_;exact rt2 rfl rfl (S_ (fun r:B_×Int=> .tup [.agg (B_.pc r.1), .int .i64 r.2]) e65 (ple rfl))
theorem J4_ (s:B_) (d:DeedR) (hs:StOk s:=by assumption):Fn Tryz.prog gb 53 [.agg (B_.pc s), .agg (DeedR.pc d)] (.tup [.agg (B_.pc ((Bf_ s d).1)), .agg (Q_.pc ((Bf_ s d).2.1)), .int .i64 ((Bf_ s d).2.2)]):=by
  refine fC Tryz.func53 tv98 Tryz.ntmps53 fun w N H hG=>?_;have s_x_book_shops_l:s.x.book.shops.length<=140737488355328:=w.1.1.1;have s_x_book_binds_l:s.x.book.binds.length<=140737488355328:=w.1.2.1.1;have s_x_stock_rows_l:s.x.stock.rows.length<=140737488355328:=w.1.2.2.2.2.1.1;have s_x_notes_kept_l:s.x.notes.kept.length<=140737488355328:=w.1.2.2.2.2.2.2.2.2.2.2.2.2.2.2.2.2.2.2.2.2.2.2.2.2.2.2.2.2.2.2.2.2.2.2.2.2.2.2.1.1;have s_policy_places_l:s.policy.places.length<=140737488355328:=w.1.2.2.2.2.2.2.2.2.2.2.2.2.2.2.2.2.2.2.2.2.2.2.2.2.2.2.2.2.2.2.2.2.2.2.2.2.2.2.2.2.2.2.2.2.2.2.2.2.2.2.2.2.2.2.2.2.2.2.2.2.2.2.2.2.2.2.2.2.2.2.2.2.2.1.1;have s_policy_slots_l:s.policy.slots.length<=140737488355328:=w.1.2.2.2.2.2.2.2.2.2.2.2.2.2.2.2.2.2.2.2.2.2.2.2.2.2.2.2.2.2.2.2.2.2.2.2.2.2.2.2.2.2.2.2.2.2.2.2.2.2.2.2.2.2.2.2.2.2.2.2.2.2.2.2.2.2.2.2.2.2.2.2.2.2.2.1.1;have s_policy_grants_l:s.policy.grants.length<=140737488355328:=w.1.2.2.2.2.2.2.2.2.2.2.2.2.2.2.2.2.2.2.2.2.2.2.2.2.2.2.2.2.2.2.2.2.2.2.2.2.2.2.2.2.2.2.2.2.2.2.2.2.2.2.2.2.2.2.2.2.2.2.2.2.2.2.2.2.2.2.2.2.2.2.2.2.2.2.2.1.1;have d_bind_want_l:d.bind.want.length<=140737488355328:=w.2.1.2.2.2.2.2.2.2.2.2.2.2.2.2.1.1;have d_mail_head_l:d.mail.head.length<=140737488355328:=w.2.1.2.2.2.2.2.2.2.2.2.2.2.2.2.2.2.2.2.2.2.2.2.2.2.2.1.1;have hs0:=hs;obtain⟨⟨⟨hb1,hb2,hb3⟩,hk0,hn,hu⟩,hp0,hq1,hq2⟩:=hs0;have hpp:=hp0;obtain⟨hp1,hp2,hp3,hp4,hp5,hp6,hp7⟩:=hpp;have hk1:=hk0;obtain⟨⟨hr1,hr2,hr3⟩,hr4,hr5,hr6⟩:=hk1;have e0:=Bf_.eq_1 s d;generalize Bf_ s d=z at e0 ⊢;refine gm tv98 18 [0,1,2,3] fun B2=>?_;refine cV e0 R11_ (K6_ _ _ _) rfl fun r hr6 e8 w7=>?_;have hA8:=Wj_ (s:=s.x.stock) (n:=d.name) (id:=d.id) (by first|assumption|exact StOk.stk (by assumption))
  (try rw[<- hr6] at hA8)
  refine gm tv98 15 [4] fun B11=>?_;refine cN e8 (fun p14 e15=>?_) (fun p18 e19=>?_)
  · refine gm tv98 12 [] fun _=>?_;subst e15;exact qr3
  refine gx tv98 10 ?_;refine cD e19 (fun p21 e22=>?_) (fun p24 e25=>?_)
  · refine gm tv98 19 [] fun _=>?_;subst e22;exact qr3
  refine gx tv98 11 ?_;refine cV e25 R19_ (G6_ _ _ _) rfl fun r1 hr26 e28 w27=>?_
  (try have hA28:=Hj_ (s:=s.x.stock) (n:=d.name) (id:=d.id) (by first|assumption|exact StOk.stk (by assumption));(try rw[<- hr26] at hA28);obtain⟨hA28_0,hA28_1⟩:=hA28)
  refine gm tv98 32 [5,6,7] fun B31=>?_;refine cD e28 (fun p35 e36=>?_) (fun p40 e41=>?_)
  · refine gx tv98 7 ?_;refine ef (bsl 8 OutR.pc [(⟨d.name,r1.2.1.mail⟩:OutR)] tv98 rfl rfl rfl rfl rfl (fun _=>rfl) rfl (by decide) (by decide) rfl fun u37=>?_);refine gx tv98 2 ?_;refine ef (V8_ (Eu_ (⟨(⟨s.x.book,r1.1,s.x.notes,s.x.seen,s.x.spent⟩:Ar_),s.policy,s.place⟩:B_) _ _ (hs:=by exact Ay_ (by assumption) (by assumption)) (hg:=by exact⟨by simp,fun g hg=>by rw[List.mem_singleton.1 hg];assumption⟩)) rfl rfl rfl rfl rfl rfl rfl fun w38=>?_);refine gm tv98 9 [] fun _=>?_;refine aN [2,3,8,9,10,11,12,13] 5 mixd ?_;refine gX tv98 [0,1] 3 ?_;refine vE 2 rfl (sA tv98 ?_);refine vT 3 rfl (sA tv98 ?_);refine gX tv98 [4] 0 ?_;refine vD ?_;refine gx tv98 2 ?_;subst e36;exact qr3
  refine gx tv98 3 ?_;refine aN [2,3,8,9,10,11,12,13] 5 mixd ?_;refine gX tv98 [0,1] 3 ?_;refine vE 2 rfl (sA tv98 ?_);refine vT 3 rfl (sA tv98 ?_);refine gX tv98 [4] 0 ?_;refine vD ?_;refine gx tv98 2 ?_;subst e41;exact qr3
theorem Ld_ (s:B_) (tick:Int) (hs:StOk s:=by assumption):Fn Tryz.prog gb 54 [.agg (B_.pc s), .int .u64 tick] (.tup [.agg (B_.pc ((Dj_ s tick).1)), .agg (Q_.pc ((Dj_ s tick).2))]):=by
  refine fC Tryz.func54 tv98 Tryz.ntmps54 fun w N H hG=>?_;have s_x_book_shops_l:s.x.book.shops.length<=140737488355328:=w.1.1.1;have s_x_book_binds_l:s.x.book.binds.length<=140737488355328:=w.1.2.1.1;have s_x_stock_rows_l:s.x.stock.rows.length<=140737488355328:=w.1.2.2.2.2.1.1;have s_x_notes_kept_l:s.x.notes.kept.length<=140737488355328:=w.1.2.2.2.2.2.2.2.2.2.2.2.2.2.2.2.2.2.2.2.2.2.2.2.2.2.2.2.2.2.2.2.2.2.2.2.2.2.2.1.1;have s_policy_places_l:s.policy.places.length<=140737488355328:=w.1.2.2.2.2.2.2.2.2.2.2.2.2.2.2.2.2.2.2.2.2.2.2.2.2.2.2.2.2.2.2.2.2.2.2.2.2.2.2.2.2.2.2.2.2.2.2.2.2.2.2.2.2.2.2.2.2.2.2.2.2.2.2.2.2.2.2.2.2.2.2.2.2.2.1.1;have s_policy_slots_l:s.policy.slots.length<=140737488355328:=w.1.2.2.2.2.2.2.2.2.2.2.2.2.2.2.2.2.2.2.2.2.2.2.2.2.2.2.2.2.2.2.2.2.2.2.2.2.2.2.2.2.2.2.2.2.2.2.2.2.2.2.2.2.2.2.2.2.2.2.2.2.2.2.2.2.2.2.2.2.2.2.2.2.2.2.1.1;have s_policy_grants_l:s.policy.grants.length<=140737488355328:=w.1.2.2.2.2.2.2.2.2.2.2.2.2.2.2.2.2.2.2.2.2.2.2.2.2.2.2.2.2.2.2.2.2.2.2.2.2.2.2.2.2.2.2.2.2.2.2.2.2.2.2.2.2.2.2.2.2.2.2.2.2.2.2.2.2.2.2.2.2.2.2.2.2.2.2.2.1.1;have tick_r:0<=tick/\tick<=18446744073709551615:=w.2.1;have hs0:=hs;obtain⟨⟨⟨hb1,hb2,hb3⟩,hk0,hn,hu⟩,hp0,hq1,hq2⟩:=hs0;have hpp:=hp0;obtain⟨hp1,hp2,hp3,hp4,hp5,hp6,hp7⟩:=hpp;have hk1:=hk0;obtain⟨⟨hr1,hr2,hr3⟩,hr4,hr5,hr6⟩:=hk1;have e0:=Dj_.eq_1 s tick;refine gm tv98 14 [0,1,2] fun B2=>?_;refine sw_own (t:=6) (k:=8) (e:=230) 3 OutR.pc rfl rfl ?_;refine loop (ι:=Nat×(List OutR)×B_×Value) [1,2,4,5] [1,2] (fun ⟨f,gone,x,u_gone⟩=>[(6, .osl 3)]) (fun ⟨f,gone,x,u_gone⟩=>[(3, .arr u_gone 8 230 OutR.pc gone),(0, .box (B2 0) 54 (B_.pc x))]) (fun ⟨f,gone,x,u_gone⟩=>nik x.x.stock<f/\Dj_ s tick=B4_ tick f gone x/\StOk x/\(∀ g∈gone,MlOk g.mail)/\gone.length+nik x.x.stock<=512) (fun ⟨f,gone,x,u_gone⟩=>f) ⟨(nik s.x.stock+1),[],s,(.slice none 0 0)⟩ ⟨rfl,trivial⟩ ⟨rfl,rfl,trivial⟩ ?_ ?_
  · exact⟨Nat.lt_succ_self _,e0,⟨by assumption,(fun _ h=>by cases h),by have :=nik_r hk0;simpa using this⟩⟩
  rintro⟨f,gone,x,u_gone⟩ ⟨hp5_1,hp5_2,hp5_3⟩;obtain⟨hi1,hi2,hi3⟩:=hp5_3;obtain⟨f1,rfl⟩:∃ q,f=q+1:=⟨f-1,by omega⟩;have e_f1:=hp5_2.trans (B4_.eq_2 _ _ _ _);refine gx tv98 7 ?_;refine cV e_f1 R20_ (K8_ _ _) rfl fun r hr6 e8 w7=>?_;have hA8:=Rd_ (s:=x.x.stock) (t:=tick) (by first|assumption|exact StOk.stk (by assumption))
  (try rw[<- hr6] at hA8)
  refine gm tv98 17 [4] fun B11=>?_;refine cE e8 (fun h12 e14=>?_) (fun h12 e20=>?_)
  · have h13:=Cp_ h12;refine gm tv98 20 [5] fun B16=>?_;refine ef (V8_ (Eu_ _ _ _ (hg:=by exact⟨by omega,by assumption⟩)) rfl rfl rfl rfl rfl rfl rfl fun w17=>?_);refine gm tv98 9 [] fun _=>?_;refine aN [1,2,3,6,7,8,9,10] 4 mixd ?_;refine gX tv98 [0,1] 2 ?_;refine vE 2 rfl (sA tv98 ?_);refine vT 3 rfl (sA tv98 ?_);refine vD ?_;refine gx tv98 2 ?_;exact rt2 rfl rfl (S_ (fun r:B_×Q_=> .tup [.agg (B_.pc r.1), .agg (Q_.pc r.2)]) e14 (ple rfl))
  have h19:=Co_ h12;refine gx tv98 10 ?_;refine cV e20 R19_ (G6_ _ _ _) rfl fun r1 hr21 e23 w22=>?_
  (try have hA23:=Hj_ (s:=x.x.stock) (n:=r.1) (id:=r.2.1.id) (by first|assumption|exact StOk.stk (by assumption));(try rw[<- hr21] at hA23);obtain⟨hA23_0,hA23_1⟩:=hA23)
  refine gm tv98 14 [] fun _=>?_;refine ef (bsl 5 OutR.pc [(⟨r.1,r.2.1⟩:OutR)] tv98 rfl rfl rfl rfl rfl (fun _=>rfl) rfl (by decide) (by decide) rfl fun u26=>?_);refine ef (app tv98 [(⟨r.1,r.2.1⟩:OutR)] rfl rfl rfl rfl rfl rfl rfl rfl rfl (src_o rfl rfl) (by first|omega|(simp;omega)) rfl fun u27=>?_);refine gx tv98 3 ?_;refine next ⟨f1,(gone++[(⟨r.1,r.2.1⟩:OutR)]),(⟨(⟨x.x.book,r1.1,x.x.notes,x.x.seen,x.x.spent⟩:Ar_),x.policy,x.place⟩:B_),(u27)⟩ rfl rfl ⟨rfl,trivial⟩ ⟨rfl,rfl,trivial⟩ ?_ ?_
  · (try simp only[]);omega
  exact⟨(Vb_ (StOk.stk (by assumption)) (by first|assumption|exact Eq.symm (by assumption)) (by assumption) (by first|assumption|exact Eq.symm (by assumption)) (by assumption)),e23,⟨Ay_ (by assumption) (by assumption),(fun g hg=>by rcases List.mem_append.1 hg with q|q;exact hi2 g q;rw[List.mem_singleton.1 q];assumption),Va_ (StOk.stk (by assumption)) (by first|assumption|exact Eq.symm (by assumption)) (by assumption) (by first|assumption|exact Eq.symm (by assumption)) (by assumption)⟩⟩
theorem Lf_ (s:B_) (d:DeedR) (hs:StOk s:=by assumption) (hd:DdOk d:=by assumption):Fn Tryz.prog gb 55 [.agg (B_.pc s), .agg (DeedR.pc d)] (.tup [.agg (B_.pc ((Ap_ s d).1)), .agg (Q_.pc ((Ap_ s d).2.1)), .int .i64 ((Ap_ s d).2.2)]):=by
  refine fC Tryz.func55 tv98 Tryz.ntmps55 fun w N H hG=>?_;have s_x_book_shops_l:s.x.book.shops.length<=140737488355328:=w.1.1.1;have s_x_book_binds_l:s.x.book.binds.length<=140737488355328:=w.1.2.1.1;have s_x_stock_next_r:0<=s.x.stock.next /\ s.x.stock.next <= 18446744073709551615:=w.1.2.2.1;have s_x_stock_bytes_r:-9223372036854775808<=s.x.stock.bytes/\s.x.stock.bytes<=9223372036854775807:=w.1.2.2.2.1;have s_x_stock_rows_l:s.x.stock.rows.length<=140737488355328:=w.1.2.2.2.2.1.1;have s_x_notes_total_r:0<=s.x.notes.total/\s.x.notes.total<=18446744073709551615:=w.1.2.2.2.2.2.2.2.2.2.2.2.2.2.2.2.2.2.2.2.2.2.2.2.2.2.2.2.2.2.2.2.2.2.2.2.2.2.1;have s_x_notes_kept_l:s.x.notes.kept.length<=140737488355328:=w.1.2.2.2.2.2.2.2.2.2.2.2.2.2.2.2.2.2.2.2.2.2.2.2.2.2.2.2.2.2.2.2.2.2.2.2.2.2.2.1.1;have s_x_seen_e0_r:0<=s.x.seen.e0/\s.x.seen.e0<=18446744073709551615:=w.1.2.2.2.2.2.2.2.2.2.2.2.2.2.2.2.2.2.2.2.2.2.2.2.2.2.2.2.2.2.2.2.2.2.2.2.2.2.2.2.1;have s_x_seen_e1_r:0<=s.x.seen.e1/\s.x.seen.e1<=18446744073709551615:=w.1.2.2.2.2.2.2.2.2.2.2.2.2.2.2.2.2.2.2.2.2.2.2.2.2.2.2.2.2.2.2.2.2.2.2.2.2.2.2.2.2.1;have s_x_seen_e2_r:0<=s.x.seen.e2/\s.x.seen.e2<=18446744073709551615:=w.1.2.2.2.2.2.2.2.2.2.2.2.2.2.2.2.2.2.2.2.2.2.2.2.2.2.2.2.2.2.2.2.2.2.2.2.2.2.2.2.2.2.1;have s_x_seen_e3_r:0<=s.x.seen.e3/\s.x.seen.e3<=18446744073709551615:=w.1.2.2.2.2.2.2.2.2.2.2.2.2.2.2.2.2.2.2.2.2.2.2.2.2.2.2.2.2.2.2.2.2.2.2.2.2.2.2.2.2.2.2.1;have s_x_seen_e4_r:0<=s.x.seen.e4/\s.x.seen.e4<=18446744073709551615:=w.1.2.2.2.2.2.2.2.2.2.2.2.2.2.2.2.2.2.2.2.2.2.2.2.2.2.2.2.2.2.2.2.2.2.2.2.2.2.2.2.2.2.2.2.1;have s_x_seen_e5_r:0<=s.x.seen.e5/\s.x.seen.e5<=18446744073709551615:=w.1.2.2.2.2.2.2.2.2.2.2.2.2.2.2.2.2.2.2.2.2.2.2.2.2.2.2.2.2.2.2.2.2.2.2.2.2.2.2.2.2.2.2.2.2.1;have s_x_seen_e6_r:0<=s.x.seen.e6/\s.x.seen.e6<=18446744073709551615:=w.1.2.2.2.2.2.2.2.2.2.2.2.2.2.2.2.2.2.2.2.2.2.2.2.2.2.2.2.2.2.2.2.2.2.2.2.2.2.2.2.2.2.2.2.2.2.1;have s_x_seen_e7_r:0<=s.x.seen.e7/\s.x.seen.e7<=18446744073709551615:=w.1.2.2.2.2.2.2.2.2.2.2.2.2.2.2.2.2.2.2.2.2.2.2.2.2.2.2.2.2.2.2.2.2.2.2.2.2.2.2.2.2.2.2.2.2.2.2.1;have s_x_seen_e8_r:0<=s.x.seen.e8/\s.x.seen.e8<=18446744073709551615:=w.1.2.2.2.2.2.2.2.2.2.2.2.2.2.2.2.2.2.2.2.2.2.2.2.2.2.2.2.2.2.2.2.2.2.2.2.2.2.2.2.2.2.2.2.2.2.2.2.1;have s_x_seen_e9_r:0<=s.x.seen.e9/\s.x.seen.e9<=18446744073709551615:=w.1.2.2.2.2.2.2.2.2.2.2.2.2.2.2.2.2.2.2.2.2.2.2.2.2.2.2.2.2.2.2.2.2.2.2.2.2.2.2.2.2.2.2.2.2.2.2.2.2.1;have s_x_seen_e10_r:0<=s.x.seen.e10/\s.x.seen.e10<=18446744073709551615:=w.1.2.2.2.2.2.2.2.2.2.2.2.2.2.2.2.2.2.2.2.2.2.2.2.2.2.2.2.2.2.2.2.2.2.2.2.2.2.2.2.2.2.2.2.2.2.2.2.2.2.1;have s_x_seen_e11_r:0<=s.x.seen.e11/\s.x.seen.e11<=18446744073709551615:=w.1.2.2.2.2.2.2.2.2.2.2.2.2.2.2.2.2.2.2.2.2.2.2.2.2.2.2.2.2.2.2.2.2.2.2.2.2.2.2.2.2.2.2.2.2.2.2.2.2.2.2.1;have s_x_seen_e12_r:0<=s.x.seen.e12/\s.x.seen.e12<=18446744073709551615:=w.1.2.2.2.2.2.2.2.2.2.2.2.2.2.2.2.2.2.2.2.2.2.2.2.2.2.2.2.2.2.2.2.2.2.2.2.2.2.2.2.2.2.2.2.2.2.2.2.2.2.2.2.1;have s_x_seen_e13_r:0<=s.x.seen.e13/\s.x.seen.e13<=18446744073709551615:=w.1.2.2.2.2.2.2.2.2.2.2.2.2.2.2.2.2.2.2.2.2.2.2.2.2.2.2.2.2.2.2.2.2.2.2.2.2.2.2.2.2.2.2.2.2.2.2.2.2.2.2.2.2.1;have s_x_seen_e14_r:0<=s.x.seen.e14/\s.x.seen.e14<=18446744073709551615:=w.1.2.2.2.2.2.2.2.2.2.2.2.2.2.2.2.2.2.2.2.2.2.2.2.2.2.2.2.2.2.2.2.2.2.2.2.2.2.2.2.2.2.2.2.2.2.2.2.2.2.2.2.2.2.1;have s_x_seen_e15_r:0<=s.x.seen.e15/\s.x.seen.e15<=18446744073709551615:=w.1.2.2.2.2.2.2.2.2.2.2.2.2.2.2.2.2.2.2.2.2.2.2.2.2.2.2.2.2.2.2.2.2.2.2.2.2.2.2.2.2.2.2.2.2.2.2.2.2.2.2.2.2.2.2.1;have s_policy_work_r:-9223372036854775808<=s.policy.work/\s.policy.work<=9223372036854775807:=w.1.2.2.2.2.2.2.2.2.2.2.2.2.2.2.2.2.2.2.2.2.2.2.2.2.2.2.2.2.2.2.2.2.2.2.2.2.2.2.2.2.2.2.2.2.2.2.2.2.2.2.2.2.2.2.2.2.2.2.2.2.2.2.2.2.2.2.2.2.2.2.2.1;have s_policy_give_r:-9223372036854775808<=s.policy.give/\s.policy.give<=9223372036854775807:=w.1.2.2.2.2.2.2.2.2.2.2.2.2.2.2.2.2.2.2.2.2.2.2.2.2.2.2.2.2.2.2.2.2.2.2.2.2.2.2.2.2.2.2.2.2.2.2.2.2.2.2.2.2.2.2.2.2.2.2.2.2.2.2.2.2.2.2.2.2.2.2.2.2.1;have s_policy_places_l:s.policy.places.length<=140737488355328:=w.1.2.2.2.2.2.2.2.2.2.2.2.2.2.2.2.2.2.2.2.2.2.2.2.2.2.2.2.2.2.2.2.2.2.2.2.2.2.2.2.2.2.2.2.2.2.2.2.2.2.2.2.2.2.2.2.2.2.2.2.2.2.2.2.2.2.2.2.2.2.2.2.2.2.1.1;have s_policy_slots_l:s.policy.slots.length<=140737488355328:=w.1.2.2.2.2.2.2.2.2.2.2.2.2.2.2.2.2.2.2.2.2.2.2.2.2.2.2.2.2.2.2.2.2.2.2.2.2.2.2.2.2.2.2.2.2.2.2.2.2.2.2.2.2.2.2.2.2.2.2.2.2.2.2.2.2.2.2.2.2.2.2.2.2.2.2.1.1;have s_policy_grants_l:s.policy.grants.length<=140737488355328:=w.1.2.2.2.2.2.2.2.2.2.2.2.2.2.2.2.2.2.2.2.2.2.2.2.2.2.2.2.2.2.2.2.2.2.2.2.2.2.2.2.2.2.2.2.2.2.2.2.2.2.2.2.2.2.2.2.2.2.2.2.2.2.2.2.2.2.2.2.2.2.2.2.2.2.2.2.1.1;have s_place_r:-9223372036854775808<=s.place/\s.place<=9223372036854775807:=w.1.2.2.2.2.2.2.2.2.2.2.2.2.2.2.2.2.2.2.2.2.2.2.2.2.2.2.2.2.2.2.2.2.2.2.2.2.2.2.2.2.2.2.2.2.2.2.2.2.2.2.2.2.2.2.2.2.2.2.2.2.2.2.2.2.2.2.2.2.2.2.2.2.2.2.2.2.1;have d_kind_r:0<=d.kind/\d.kind<=255:=w.2.1.1;have d_tick_r:0<=d.tick/\d.tick<=18446744073709551615:=w.2.1.2.1;have d_shop_name_l:d.shop.name.length<=9223372036854775807:=w.2.1.2.2.1;have d_shop_sort_r:0<=d.shop.sort/\d.shop.sort<=255:=w.2.1.2.2.2.1;have d_shop_to_l:d.shop.to'.length<=9223372036854775807:=w.2.1.2.2.2.2.1;have d_queue_name_l:d.queue.name.length<=9223372036854775807:=w.2.1.2.2.2.2.2.1;have d_queue_most_r:0<=d.queue.most/\d.queue.most<=18446744073709551615:=w.2.1.2.2.2.2.2.2.1;have d_queue_life_r:0<=d.queue.life/\d.queue.life<=18446744073709551615:=w.2.1.2.2.2.2.2.2.2.1;have d_queue_dead_l:d.queue.dead.length<=9223372036854775807:=w.2.1.2.2.2.2.2.2.2.2.1;have d_bind_shop_l:d.bind.shop.length<=9223372036854775807:=w.2.1.2.2.2.2.2.2.2.2.2.1;have d_bind_to_l:d.bind.to'.length<=9223372036854775807:=w.2.1.2.2.2.2.2.2.2.2.2.2.1;have d_bind_key_l:d.bind.key.length<=9223372036854775807:=w.2.1.2.2.2.2.2.2.2.2.2.2.2.2.1;have d_bind_want_l:d.bind.want.length<=140737488355328:=w.2.1.2.2.2.2.2.2.2.2.2.2.2.2.2.1.1;have d_name_l:d.name.length<=9223372036854775807:=w.2.1.2.2.2.2.2.2.2.2.2.2.2.2.2.2.2.1;have d_id_r:0<=d.id/\d.id<=18446744073709551615:=w.2.1.2.2.2.2.2.2.2.2.2.2.2.2.2.2.2.2.1;have d_how_r:0<=d.how/\d.how<=255:=w.2.1.2.2.2.2.2.2.2.2.2.2.2.2.2.2.2.2.2.1;have d_frm_r:0<=d.frm/\d.frm<=255:=w.2.1.2.2.2.2.2.2.2.2.2.2.2.2.2.2.2.2.2.2.1;have d_code_r:0<=d.code/\d.code<=255:=w.2.1.2.2.2.2.2.2.2.2.2.2.2.2.2.2.2.2.2.2.2.1;have d_number_r:0<=d.number/\d.number<=18446744073709551615:=w.2.1.2.2.2.2.2.2.2.2.2.2.2.2.2.2.2.2.2.2.2.2.1;have d_mail_id_r:0<=d.mail.id/\d.mail.id<=18446744073709551615:=w.2.1.2.2.2.2.2.2.2.2.2.2.2.2.2.2.2.2.2.2.2.2.2.1;have d_mail_shop_l:d.mail.shop.length<=9223372036854775807:=w.2.1.2.2.2.2.2.2.2.2.2.2.2.2.2.2.2.2.2.2.2.2.2.2.1;have d_mail_key_l:d.mail.key.length<=9223372036854775807:=w.2.1.2.2.2.2.2.2.2.2.2.2.2.2.2.2.2.2.2.2.2.2.2.2.2.1;have d_mail_head_l:d.mail.head.length<=140737488355328:=w.2.1.2.2.2.2.2.2.2.2.2.2.2.2.2.2.2.2.2.2.2.2.2.2.2.2.1.1;have d_mail_body_l:d.mail.body.length<=9223372036854775807:=w.2.1.2.2.2.2.2.2.2.2.2.2.2.2.2.2.2.2.2.2.2.2.2.2.2.2.2.1;have d_mail_due_r:0<=d.mail.due/\d.mail.due<=18446744073709551615:=w.2.1.2.2.2.2.2.2.2.2.2.2.2.2.2.2.2.2.2.2.2.2.2.2.2.2.2.2.1;have d_mail_hops_r:0<=d.mail.hops/\d.mail.hops<=255:=w.2.1.2.2.2.2.2.2.2.2.2.2.2.2.2.2.2.2.2.2.2.2.2.2.2.2.2.2.2.1;have d_text_l:d.text.length<=9223372036854775807:=w.2.1.2.2.2.2.2.2.2.2.2.2.2.2.2.2.2.2.2.2.2.2.2.2.2.2.2.2.2.2.1;have hs0:=hs;obtain⟨⟨⟨hb1,hb2,hb3⟩,hk0,hn,hu⟩,hp0,hq1,hq2⟩:=hs0;have hpp:=hp0;obtain⟨hp1,hp2,hp3,hp4,hp5,hp6,hp7⟩:=hpp;have hk1:=hk0;obtain⟨⟨hr1,hr2,hr3⟩,hr4,hr5,hr6⟩:=hk1;have hd0:=hd;obtain⟨hd1,hd2,hd3,hd4⟩:=hd0;have e0:=Ap_.eq_1 s d;generalize Ap_ s d=z at e0 ⊢;refine gm tv98 30 [0,1,2,3] fun B2=>?_;refine cD e0 (fun p7 e8=>?_) (fun p10 e11=>?_)
  · refine gm tv98 12 [] fun _=>?_;subst e8;exact qr3
  refine gx tv98 7 ?_;refine call (E1_ _ _ _) rfl rfl fun w12=>?_;refine gy tv98 7 ?_;refine callg rfl (fun hc=>(E2_ _ _ _)) rfl ⟨(fun hc=>hc),(fun hc=>hc),(fun hc=>hc),trivial⟩ rfl rfl fun _=>?_;refine gy tv98 5 ?_;refine cE e11 (fun h13 e18=>?_) (fun h13 e20=>?_)
  · have h14:=bl h13;have h15:=Cp_ h14;have h16:=br h13;have p17:=dt h16;refine gm tv98 12 [] fun _=>?_;subst e18;exact qr3
  refine gx tv98 1 ?_;refine aN [4,5,6,7,8,9] 9 mixd ?_;refine gX tv98 [0,1,2,3,4] 4 ?_;refine vq 5 (qaia (d.frm).toNat rfl rfl Tryz.underlying47 sz36 (by omega) (by omega)) rfl (by kernel_rfl) rfl fun w21=>?_;refine vE 6 rfl (oloadS1 (len:=16) (fun q=> .int .u64 (A16.get s.x.seen q)) ((d.frm).toNat) 39 1 0 tv98 rfl rfl rfl rfl rfl rfl (by omega) (bw16 rfl rfl rfl rfl rfl rfl rfl rfl rfl rfl rfl rfl rfl rfl rfl rfl) rfl fun w22=>?_);refine gX tv98 [7,8] 0 ?_;refine vD ?_;refine gx tv98 1 ?_;refine cD e20 (fun p24 e25=>?_) (fun p27 e28=>?_)
  · refine gm tv98 12 [] fun _=>?_;subst e25;exact qr3
  refine gx tv98 10 ?_;refine q1 (qaia (d.frm).toNat rfl rfl Tryz.underlying47 sz36 (by omega) (by omega)) rfl fun w29=>?_;refine ef (ostoreS1 (len:=16) (fun q=>B_.pc (⟨(⟨s.x.book,s.x.stock,s.x.notes,(A16.set s.x.seen d.number q),s.x.spent⟩:Ar_),s.policy,s.place⟩:B_)) ((d.frm).toNat) 39 1 0 tv98 rfl rfl rfl rfl rfl rfl rfl (by omega) (bw16 rfl rfl rfl rfl rfl rfl rfl rfl rfl rfl rfl rfl rfl rfl rfl rfl) rfl (bw16 rfl rfl rfl rfl rfl rfl rfl rfl rfl rfl rfl rfl rfl rfl rfl rfl) rfl ?_);refine gx tv98 3 ?_;obtain⟨o,e_o,q_o⟩:=Hw_ e28;refine Hr_ (ι:=B_) [2,3,4,5,6] [1,2,3] (fun x=>[]) (fun x=>[(0, .box (B2 0) 54 (B_.pc x))]) (fun x=>o=x/\StOk x) ?_ ?_
  · refine gx tv98 7 ?_;refine call (E1_ _ _ _) rfl rfl fun w30=>?_;refine gx tv98 3 ?_;refine cE e_o (fun h31 e33=>?_) (fun h31 e41=>?_)
    · have h32:=Cp_ h31;refine aN [4,5,6,7,8,9] 12 mixd ?_;refine gX tv98 [0,1,2,3,4,5,6] 5 ?_;have hc34:=getG (xs:=s.policy.places) (k:=(d.frm).toNat) (by omega);refine vq 7 (qidx tv98 (d.frm).toNat rfl rfl (by omega) hc34 rfl rfl rfl rfl) rfl (by kernel_rfl) rfl fun w35=>?_;refine gX tv98 [8,9] 2 ?_;refine vE 10 rfl (eC (D6_ (⟨(⟨s.x.book,s.x.stock,s.x.notes,(A16.set s.x.seen d.number ((d.frm).toNat)),s.x.spent⟩:Ar_),s.policy,s.place⟩:B_) _ _ _ (hn:=by exact st_nts (by first|assumption|exact Bt_ (by assumption)))) rfl ?_);generalize hr37:A2_ (⟨(⟨s.x.book,s.x.stock,s.x.notes,(A16.set s.x.seen d.number ((d.frm).toNat)),s.x.spent⟩:Ar_),s.policy,s.place⟩:B_) d.tick 2 ((gt s.policy.places ((d.frm).toNat)).name)=r;intro w36;have e38:=e33.trans (Ge_ hr37.symm);have hr37:=hr37.symm
      (try have hA38:=Ha_ (s:=(⟨(⟨s.x.book,s.x.stock,s.x.notes,(A16.set s.x.seen d.number ((d.frm).toNat)),s.x.spent⟩:Ar_),s.policy,s.place⟩:B_)) (t:=d.tick) (k:=2) (x:=((gt s.policy.places ((d.frm).toNat)).name)) (by first|assumption|exact Bt_ (by assumption));(try rw[<- hr37] at hA38);obtain⟨hA38_0,hA38_1⟩:=hA38)
      refine vT 11 rfl (sA tv98 ?_);refine vD ?_;refine nX r ?_ trivial ⟨rfl,trivial⟩;exact⟨e38,by first|assumption|exact Bt_ (by assumption)⟩
    have h40:=Co_ h31;refine gx tv98 1 ?_;refine nX (⟨(⟨s.x.book,s.x.stock,s.x.notes,(A16.set s.x.seen d.number ((d.frm).toNat)),s.x.spent⟩:Ar_),s.policy,s.place⟩:B_) ?_ trivial ⟨rfl,trivial⟩;exact⟨e41,by first|assumption|exact Bt_ (by assumption)⟩
  rintro x ⟨hp42,hp42_3⟩;have e43:=K1_ q_o hp42;refine gx tv98 5 ?_;refine cV e43 R1_ (En_ _) rfl fun r1 hr44 e46 w45=>?_;have hA46:=Sn_ d.mail
  (try rw[<- hr44] at hA46)
  have :=wr_u8 (r1.hops+1);refine gm tv98 19 [4] fun B49=>?_;refine ef (ecallo 5 (D7_ _ (⟨r1.id,r1.shop,r1.key,r1.head,r1.body,r1.due,(IntKind.wrap .u8 (r1.hops+1))⟩:Mail) _ (hs:=by first|assumption|exact Bt_ (by assumption)) (hm:=by dsimp only;exact⟨by omega,by omega⟩)) rfl rfl ?_);generalize hr52:J_ x (⟨r1.id,r1.shop,r1.key,r1.head,r1.body,r1.due,(IntKind.wrap .u8 (r1.hops+1))⟩:Mail) d.tick=r2;intro u51 w50;have e53:=e46.trans (Ge_ hr52.symm);have hr52:=hr52.symm
  (try have hA53:=I9_ (s:=x) (m:=(⟨r1.id,r1.shop,r1.key,r1.head,r1.body,r1.due,(IntKind.wrap .u8 (r1.hops+1))⟩:Mail)) (tick:=d.tick) (by first|assumption|exact Bt_ (by assumption)) (by (try dsimp only);first|omega|exact Jb_ _);(try rw[<- hr52] at hA53);obtain⟨hA53_0,hA53_1,hA53_2⟩:=hA53)
  (try have hA54:=I8_ (s:=x) (m:=(⟨r1.id,r1.shop,r1.key,r1.head,r1.body,r1.due,(IntKind.wrap .u8 (r1.hops+1))⟩:Mail)) (tick:=d.tick) (by first|assumption|exact Bt_ (by assumption));(try rw[<- hr52] at hA54))
  refine gmy tv98 24 [6] fun B57=>?_;refine cE e53 (fun h58 e59=>?_) (fun h58 e70=>?_)
  · refine gx tv98 7 ?_;refine cV e59 R21_ (D6_ _ _ _ _ (hn:=by exact st_nts (by first|assumption|exact Bt_ (by assumption)))) rfl fun r3 hr60 e62 w61=>?_
    (try have hA62:=Ha_ (s:=x) (t:=d.tick) (k:=1) (x:=r1.shop) (by first|assumption|exact Bt_ (by assumption));(try rw[<- hr60] at hA62);obtain⟨hA62_0,hA62_1⟩:=hA62)
    refine gm tv98 8 [] fun _=>?_;subst e62;exact qr3
  have h65:=orl h58;have p66:=df h65;have h67:=orr h58;have h68:=Co_ h67;have p69:=dt h68;refine gm tv98 16 [7] fun B72=>?_;refine so_osl (t:=115) 5 rfl rfl ?_;refine ef (V8_ (Eu_ _ _ _) rfl rfl rfl rfl rfl rfl rfl fun w73=>?_);refine gm tv98 9 [] fun _=>?_;refine aN [2,3,5,8,9,10,11,12] 5 mixd ?_;refine gX tv98 [0,1] 3 ?_;refine vE 2 rfl (sA tv98 ?_);refine vT 3 rfl (sA tv98 ?_);refine gX tv98 [4] 0 ?_;refine vD ?_;refine gx tv98 2 ?_;subst e70;exact qr3
theorem L7_ (s:B_) (d:DeedR) (hs:StOk s:=by assumption) (hd:DdOk d:=by assumption):Fn Tryz.prog gb 51 [.agg (B_.pc s), .agg (DeedR.pc d)] (.tup [.agg (B_.pc ((Ce_ s d).1)), .agg (Q_.pc ((Ce_ s d).2.1)), .int .i64 ((Ce_ s d).2.2)]):=by
  refine fC Tryz.func51 tv98 Tryz.ntmps51 fun w N H hG=>?_;have s_x_book_shops_l:s.x.book.shops.length<=140737488355328:=w.1.1.1;have s_x_book_binds_l:s.x.book.binds.length<=140737488355328:=w.1.2.1.1;have s_x_stock_next_r:0<=s.x.stock.next /\ s.x.stock.next <= 18446744073709551615:=w.1.2.2.1;have s_x_stock_bytes_r:-9223372036854775808<=s.x.stock.bytes/\s.x.stock.bytes<=9223372036854775807:=w.1.2.2.2.1;have s_x_stock_rows_l:s.x.stock.rows.length<=140737488355328:=w.1.2.2.2.2.1.1;have s_x_notes_total_r:0<=s.x.notes.total/\s.x.notes.total<=18446744073709551615:=w.1.2.2.2.2.2.2.2.2.2.2.2.2.2.2.2.2.2.2.2.2.2.2.2.2.2.2.2.2.2.2.2.2.2.2.2.2.2.1;have s_x_notes_kept_l:s.x.notes.kept.length<=140737488355328:=w.1.2.2.2.2.2.2.2.2.2.2.2.2.2.2.2.2.2.2.2.2.2.2.2.2.2.2.2.2.2.2.2.2.2.2.2.2.2.2.1.1;have s_x_seen_e0_r:0<=s.x.seen.e0/\s.x.seen.e0<=18446744073709551615:=w.1.2.2.2.2.2.2.2.2.2.2.2.2.2.2.2.2.2.2.2.2.2.2.2.2.2.2.2.2.2.2.2.2.2.2.2.2.2.2.2.1;have s_x_seen_e1_r:0<=s.x.seen.e1/\s.x.seen.e1<=18446744073709551615:=w.1.2.2.2.2.2.2.2.2.2.2.2.2.2.2.2.2.2.2.2.2.2.2.2.2.2.2.2.2.2.2.2.2.2.2.2.2.2.2.2.2.1;have s_x_seen_e2_r:0<=s.x.seen.e2/\s.x.seen.e2<=18446744073709551615:=w.1.2.2.2.2.2.2.2.2.2.2.2.2.2.2.2.2.2.2.2.2.2.2.2.2.2.2.2.2.2.2.2.2.2.2.2.2.2.2.2.2.2.1;have s_x_seen_e3_r:0<=s.x.seen.e3/\s.x.seen.e3<=18446744073709551615:=w.1.2.2.2.2.2.2.2.2.2.2.2.2.2.2.2.2.2.2.2.2.2.2.2.2.2.2.2.2.2.2.2.2.2.2.2.2.2.2.2.2.2.2.1;have s_x_seen_e4_r:0<=s.x.seen.e4/\s.x.seen.e4<=18446744073709551615:=w.1.2.2.2.2.2.2.2.2.2.2.2.2.2.2.2.2.2.2.2.2.2.2.2.2.2.2.2.2.2.2.2.2.2.2.2.2.2.2.2.2.2.2.2.1;have s_x_seen_e5_r:0<=s.x.seen.e5/\s.x.seen.e5<=18446744073709551615:=w.1.2.2.2.2.2.2.2.2.2.2.2.2.2.2.2.2.2.2.2.2.2.2.2.2.2.2.2.2.2.2.2.2.2.2.2.2.2.2.2.2.2.2.2.2.1;have s_x_seen_e6_r:0<=s.x.seen.e6/\s.x.seen.e6<=18446744073709551615:=w.1.2.2.2.2.2.2.2.2.2.2.2.2.2.2.2.2.2.2.2.2.2.2.2.2.2.2.2.2.2.2.2.2.2.2.2.2.2.2.2.2.2.2.2.2.2.1;have s_x_seen_e7_r:0<=s.x.seen.e7/\s.x.seen.e7<=18446744073709551615:=w.1.2.2.2.2.2.2.2.2.2.2.2.2.2.2.2.2.2.2.2.2.2.2.2.2.2.2.2.2.2.2.2.2.2.2.2.2.2.2.2.2.2.2.2.2.2.2.1;have s_x_seen_e8_r:0<=s.x.seen.e8/\s.x.seen.e8<=18446744073709551615:=w.1.2.2.2.2.2.2.2.2.2.2.2.2.2.2.2.2.2.2.2.2.2.2.2.2.2.2.2.2.2.2.2.2.2.2.2.2.2.2.2.2.2.2.2.2.2.2.2.1;have s_x_seen_e9_r:0<=s.x.seen.e9/\s.x.seen.e9<=18446744073709551615:=w.1.2.2.2.2.2.2.2.2.2.2.2.2.2.2.2.2.2.2.2.2.2.2.2.2.2.2.2.2.2.2.2.2.2.2.2.2.2.2.2.2.2.2.2.2.2.2.2.2.1;have s_x_seen_e10_r:0<=s.x.seen.e10/\s.x.seen.e10<=18446744073709551615:=w.1.2.2.2.2.2.2.2.2.2.2.2.2.2.2.2.2.2.2.2.2.2.2.2.2.2.2.2.2.2.2.2.2.2.2.2.2.2.2.2.2.2.2.2.2.2.2.2.2.2.1;have s_x_seen_e11_r:0<=s.x.seen.e11/\s.x.seen.e11<=18446744073709551615:=w.1.2.2.2.2.2.2.2.2.2.2.2.2.2.2.2.2.2.2.2.2.2.2.2.2.2.2.2.2.2.2.2.2.2.2.2.2.2.2.2.2.2.2.2.2.2.2.2.2.2.2.1;have s_x_seen_e12_r:0<=s.x.seen.e12/\s.x.seen.e12<=18446744073709551615:=w.1.2.2.2.2.2.2.2.2.2.2.2.2.2.2.2.2.2.2.2.2.2.2.2.2.2.2.2.2.2.2.2.2.2.2.2.2.2.2.2.2.2.2.2.2.2.2.2.2.2.2.2.1;have s_x_seen_e13_r:0<=s.x.seen.e13/\s.x.seen.e13<=18446744073709551615:=w.1.2.2.2.2.2.2.2.2.2.2.2.2.2.2.2.2.2.2.2.2.2.2.2.2.2.2.2.2.2.2.2.2.2.2.2.2.2.2.2.2.2.2.2.2.2.2.2.2.2.2.2.2.1;have s_x_seen_e14_r:0<=s.x.seen.e14/\s.x.seen.e14<=18446744073709551615:=w.1.2.2.2.2.2.2.2.2.2.2.2.2.2.2.2.2.2.2.2.2.2.2.2.2.2.2.2.2.2.2.2.2.2.2.2.2.2.2.2.2.2.2.2.2.2.2.2.2.2.2.2.2.2.1;have s_x_seen_e15_r:0<=s.x.seen.e15/\s.x.seen.e15<=18446744073709551615:=w.1.2.2.2.2.2.2.2.2.2.2.2.2.2.2.2.2.2.2.2.2.2.2.2.2.2.2.2.2.2.2.2.2.2.2.2.2.2.2.2.2.2.2.2.2.2.2.2.2.2.2.2.2.2.2.1;have s_policy_work_r:-9223372036854775808<=s.policy.work/\s.policy.work<=9223372036854775807:=w.1.2.2.2.2.2.2.2.2.2.2.2.2.2.2.2.2.2.2.2.2.2.2.2.2.2.2.2.2.2.2.2.2.2.2.2.2.2.2.2.2.2.2.2.2.2.2.2.2.2.2.2.2.2.2.2.2.2.2.2.2.2.2.2.2.2.2.2.2.2.2.2.1;have s_policy_give_r:-9223372036854775808<=s.policy.give/\s.policy.give<=9223372036854775807:=w.1.2.2.2.2.2.2.2.2.2.2.2.2.2.2.2.2.2.2.2.2.2.2.2.2.2.2.2.2.2.2.2.2.2.2.2.2.2.2.2.2.2.2.2.2.2.2.2.2.2.2.2.2.2.2.2.2.2.2.2.2.2.2.2.2.2.2.2.2.2.2.2.2.1;have s_policy_places_l:s.policy.places.length<=140737488355328:=w.1.2.2.2.2.2.2.2.2.2.2.2.2.2.2.2.2.2.2.2.2.2.2.2.2.2.2.2.2.2.2.2.2.2.2.2.2.2.2.2.2.2.2.2.2.2.2.2.2.2.2.2.2.2.2.2.2.2.2.2.2.2.2.2.2.2.2.2.2.2.2.2.2.2.1.1;have s_policy_slots_l:s.policy.slots.length<=140737488355328:=w.1.2.2.2.2.2.2.2.2.2.2.2.2.2.2.2.2.2.2.2.2.2.2.2.2.2.2.2.2.2.2.2.2.2.2.2.2.2.2.2.2.2.2.2.2.2.2.2.2.2.2.2.2.2.2.2.2.2.2.2.2.2.2.2.2.2.2.2.2.2.2.2.2.2.2.1.1;have s_policy_grants_l:s.policy.grants.length<=140737488355328:=w.1.2.2.2.2.2.2.2.2.2.2.2.2.2.2.2.2.2.2.2.2.2.2.2.2.2.2.2.2.2.2.2.2.2.2.2.2.2.2.2.2.2.2.2.2.2.2.2.2.2.2.2.2.2.2.2.2.2.2.2.2.2.2.2.2.2.2.2.2.2.2.2.2.2.2.2.1.1;have s_place_r:-9223372036854775808<=s.place/\s.place<=9223372036854775807:=w.1.2.2.2.2.2.2.2.2.2.2.2.2.2.2.2.2.2.2.2.2.2.2.2.2.2.2.2.2.2.2.2.2.2.2.2.2.2.2.2.2.2.2.2.2.2.2.2.2.2.2.2.2.2.2.2.2.2.2.2.2.2.2.2.2.2.2.2.2.2.2.2.2.2.2.2.2.1;have d_kind_r:0<=d.kind/\d.kind<=255:=w.2.1.1;have d_tick_r:0<=d.tick/\d.tick<=18446744073709551615:=w.2.1.2.1;have d_shop_name_l:d.shop.name.length<=9223372036854775807:=w.2.1.2.2.1;have d_shop_sort_r:0<=d.shop.sort/\d.shop.sort<=255:=w.2.1.2.2.2.1;have d_shop_to_l:d.shop.to'.length<=9223372036854775807:=w.2.1.2.2.2.2.1;have d_queue_name_l:d.queue.name.length<=9223372036854775807:=w.2.1.2.2.2.2.2.1;have d_queue_most_r:0<=d.queue.most/\d.queue.most<=18446744073709551615:=w.2.1.2.2.2.2.2.2.1;have d_queue_life_r:0<=d.queue.life/\d.queue.life<=18446744073709551615:=w.2.1.2.2.2.2.2.2.2.1;have d_queue_dead_l:d.queue.dead.length<=9223372036854775807:=w.2.1.2.2.2.2.2.2.2.2.1;have d_bind_shop_l:d.bind.shop.length<=9223372036854775807:=w.2.1.2.2.2.2.2.2.2.2.2.1;have d_bind_to_l:d.bind.to'.length<=9223372036854775807:=w.2.1.2.2.2.2.2.2.2.2.2.2.1;have d_bind_key_l:d.bind.key.length<=9223372036854775807:=w.2.1.2.2.2.2.2.2.2.2.2.2.2.2.1;have d_bind_want_l:d.bind.want.length<=140737488355328:=w.2.1.2.2.2.2.2.2.2.2.2.2.2.2.2.1.1;have d_name_l:d.name.length<=9223372036854775807:=w.2.1.2.2.2.2.2.2.2.2.2.2.2.2.2.2.2.1;have d_id_r:0<=d.id/\d.id<=18446744073709551615:=w.2.1.2.2.2.2.2.2.2.2.2.2.2.2.2.2.2.2.1;have d_how_r:0<=d.how/\d.how<=255:=w.2.1.2.2.2.2.2.2.2.2.2.2.2.2.2.2.2.2.2.1;have d_frm_r:0<=d.frm/\d.frm<=255:=w.2.1.2.2.2.2.2.2.2.2.2.2.2.2.2.2.2.2.2.2.1;have d_code_r:0<=d.code/\d.code<=255:=w.2.1.2.2.2.2.2.2.2.2.2.2.2.2.2.2.2.2.2.2.2.1;have d_number_r:0<=d.number/\d.number<=18446744073709551615:=w.2.1.2.2.2.2.2.2.2.2.2.2.2.2.2.2.2.2.2.2.2.2.1;have d_mail_id_r:0<=d.mail.id/\d.mail.id<=18446744073709551615:=w.2.1.2.2.2.2.2.2.2.2.2.2.2.2.2.2.2.2.2.2.2.2.2.1;have d_mail_shop_l:d.mail.shop.length<=9223372036854775807:=w.2.1.2.2.2.2.2.2.2.2.2.2.2.2.2.2.2.2.2.2.2.2.2.2.1;have d_mail_key_l:d.mail.key.length<=9223372036854775807:=w.2.1.2.2.2.2.2.2.2.2.2.2.2.2.2.2.2.2.2.2.2.2.2.2.2.1;have d_mail_head_l:d.mail.head.length<=140737488355328:=w.2.1.2.2.2.2.2.2.2.2.2.2.2.2.2.2.2.2.2.2.2.2.2.2.2.2.1.1;have d_mail_body_l:d.mail.body.length<=9223372036854775807:=w.2.1.2.2.2.2.2.2.2.2.2.2.2.2.2.2.2.2.2.2.2.2.2.2.2.2.2.1;have d_mail_due_r:0<=d.mail.due/\d.mail.due<=18446744073709551615:=w.2.1.2.2.2.2.2.2.2.2.2.2.2.2.2.2.2.2.2.2.2.2.2.2.2.2.2.2.1;have d_mail_hops_r:0<=d.mail.hops/\d.mail.hops<=255:=w.2.1.2.2.2.2.2.2.2.2.2.2.2.2.2.2.2.2.2.2.2.2.2.2.2.2.2.2.2.1;have d_text_l:d.text.length<=9223372036854775807:=w.2.1.2.2.2.2.2.2.2.2.2.2.2.2.2.2.2.2.2.2.2.2.2.2.2.2.2.2.2.2.1;have hs0:=hs;obtain⟨⟨⟨hb1,hb2,hb3⟩,hk0,hn,hu⟩,hp0,hq1,hq2⟩:=hs0;have hpp:=hp0;obtain⟨hp1,hp2,hp3,hp4,hp5,hp6,hp7⟩:=hpp;have hk1:=hk0;obtain⟨⟨hr1,hr2,hr3⟩,hr4,hr5,hr6⟩:=hk1;have hd0:=hd;obtain⟨hd1,hd2,hd3,hd4⟩:=hd0;have e0:=Ce_.eq_1 s d;generalize Ce_ s d=z at e0 ⊢;refine gm tv98 10 [0,1,2,3] fun B2=>?_;refine Hr_ (ι:=Value×Nat) [2,3,4,5,6] [0,1,2,3] (fun ⟨u6,b7⟩=>[(7, .own 5 b7 0),(8, .val u6),(9, .int .i64 ((J_ s (G_ d.mail) d.tick).2.2.1)),(10, .int .i64 ((J_ s (G_ d.mail) d.tick).2.2.2))]) (fun ⟨u6,b7⟩=>[(4, .arr u6 8 230 OutR.pc ((J_ s (G_ d.mail) d.tick).2.1)),(5, .box b7 54 (B_.pc ((J_ s (G_ d.mail) d.tick).1)))]) (fun ⟨u6,b7⟩=>PV.wf (.agg (Mail.pc (G_ d.mail)))/\PV.wf (.tup [.agg (B_.pc ((J_ s (G_ d.mail) d.tick).1)), .val u6, .int .i64 ((J_ s (G_ d.mail) d.tick).2.2.1), .int .i64 ((J_ s (G_ d.mail) d.tick).2.2.2)])) ?_ ?_
  · refine aN [4,5,6,7,8,9,10,11] 17 mixd ?_;refine gX tv98 [0,1,2,4,5] 12 ?_;refine veL 3 [12] (by kernel_rfl) ⟨⟨_,rfl,?_⟩,⟨_,rfl,?_⟩,trivial⟩
    · refine ej rfl (eC (En_ d.mail) rfl fun w8=>?_);have hB8:=Sn_ d.mail;refine veL 6 [12] (by kernel_rfl) ⟨⟨_,rfl,?_⟩,⟨_,rfl,?_⟩,trivial⟩
      · refine ej rfl (ecallo 4 (D7_ s (G_ d.mail) _) rfl rfl fun u11 w10=>?_);refine gX tv98 [7,8,9,10,11] 5 ?_;refine vE 12 rfl (aL tv98 5 fun b12=>?_);refine vE 13 rfl (sA tv98 ?_);refine gX tv98 [14,15,16] 0 ?_;refine vD ?_;refine nX ⟨(u11),(b12)⟩ ?_ ⟨rfl,rfl,rfl,rfl,trivial⟩ ⟨rfl,rfl,trivial⟩;exact⟨w8,w10⟩
      refine ej rfl (aL tv98 5 fun b13=>?_);refine vE 6 rfl (ecallo 4 (D7_ s (G_ d.mail) _) rfl rfl fun u15 w14=>?_);refine gX tv98 [7,8,9,10,11] 4 ?_;refine vE 13 rfl (sA tv98 ?_);refine gX tv98 [14,15,16] 0 ?_;refine vD ?_;refine nX ⟨(u15),(b13)⟩ ?_ ⟨rfl,rfl,rfl,rfl,trivial⟩ ⟨rfl,rfl,trivial⟩;exact⟨w8,w14⟩
    refine ej rfl (aL tv98 5 fun b16=>?_);refine vE 3 rfl (eC (En_ d.mail) rfl fun w17=>?_);have hB17:=Sn_ d.mail;refine vE 6 rfl (ecallo 4 (D7_ s (G_ d.mail) _) rfl rfl fun u20 w19=>?_);refine gX tv98 [7,8,9,10,11] 4 ?_;refine vE 13 rfl (sA tv98 ?_);refine gX tv98 [14,15,16] 0 ?_;refine vD ?_;refine nX ⟨(u20),(b16)⟩ ?_ ⟨rfl,rfl,rfl,rfl,trivial⟩ ⟨rfl,rfl,trivial⟩;exact⟨w17,w19⟩
  generalize hr21:G_ d.mail=r;generalize hr22:J_ s r d.tick=r1;rintro⟨u6,b7⟩ ⟨w23,w24⟩;have e25:=e0.trans (Ge_ hr21.symm);have hr21:=hr21.symm;have hA25:=Sn_ d.mail
  (try rw[<- hr21] at hA25)
  have e27:=e25.trans (Ge_ hr22.symm);have hr22:=hr22.symm
  (try have hA27:=I9_ (s:=s) (m:=r) (tick:=d.tick) (by first|assumption|exact Bt_ (by assumption)) (by (try dsimp only);first|omega|exact Jb_ _);(try rw[<- hr22] at hA27);obtain⟨hA27_0,hA27_1,hA27_2⟩:=hA27)
  (try have hA28:=I8_ (s:=s) (m:=r) (tick:=d.tick) (by first|assumption|exact Bt_ (by assumption));(try rw[<- hr22] at hA28))
  refine gx tv98 8 ?_;refine cN e27 (fun p32 e33=>?_) (fun p36 e37=>?_)
  · refine gm tv98 12 [] fun _=>?_;subst e33;exact qr3
  refine gm tv98 16 [6] fun B39=>?_;refine so_osl (t:=33) 4 rfl rfl ?_;refine ef (V8_ (Eu_ _ _ _) rfl rfl rfl rfl rfl rfl rfl fun w40=>?_);refine gm tv98 9 [] fun _=>?_;refine aN [2,3,4,7,8,9,10,11] 5 mixd ?_;refine gX tv98 [0,1] 3 ?_;refine vE 2 rfl (sA tv98 ?_);refine vT 3 rfl (sA tv98 ?_);refine gX tv98 [4] 0 ?_;refine vD ?_;refine gx tv98 2 ?_;subst e37;exact qr3
theorem Em_ (s:B_) (d:DeedR) (hs:StOk s:=by assumption) (hd:DdOk d:=by assumption):Fn Tryz.prog gb 16 [.agg (B_.pc s), .agg (DeedR.pc d)] (.tup [.agg (B_.pc ((K_ s d).1)), .agg (Q_.pc ((K_ s d).2.1)), .int .i64 ((K_ s d).2.2)]):=by
  refine fC Tryz.func16 tv98 Tryz.ntmps16 fun w N H hG=>?_;have s_x_book_shops_l:s.x.book.shops.length<=140737488355328:=w.1.1.1;have s_x_book_binds_l:s.x.book.binds.length<=140737488355328:=w.1.2.1.1;have s_x_stock_next_r:0<=s.x.stock.next /\ s.x.stock.next <= 18446744073709551615:=w.1.2.2.1;have s_x_stock_bytes_r:-9223372036854775808<=s.x.stock.bytes/\s.x.stock.bytes<=9223372036854775807:=w.1.2.2.2.1;have s_x_stock_rows_l:s.x.stock.rows.length<=140737488355328:=w.1.2.2.2.2.1.1;have s_x_notes_total_r:0<=s.x.notes.total/\s.x.notes.total<=18446744073709551615:=w.1.2.2.2.2.2.2.2.2.2.2.2.2.2.2.2.2.2.2.2.2.2.2.2.2.2.2.2.2.2.2.2.2.2.2.2.2.2.1;have s_x_notes_kept_l:s.x.notes.kept.length<=140737488355328:=w.1.2.2.2.2.2.2.2.2.2.2.2.2.2.2.2.2.2.2.2.2.2.2.2.2.2.2.2.2.2.2.2.2.2.2.2.2.2.2.1.1;have s_x_seen_e0_r:0<=s.x.seen.e0/\s.x.seen.e0<=18446744073709551615:=w.1.2.2.2.2.2.2.2.2.2.2.2.2.2.2.2.2.2.2.2.2.2.2.2.2.2.2.2.2.2.2.2.2.2.2.2.2.2.2.2.1;have s_x_seen_e1_r:0<=s.x.seen.e1/\s.x.seen.e1<=18446744073709551615:=w.1.2.2.2.2.2.2.2.2.2.2.2.2.2.2.2.2.2.2.2.2.2.2.2.2.2.2.2.2.2.2.2.2.2.2.2.2.2.2.2.2.1;have s_x_seen_e2_r:0<=s.x.seen.e2/\s.x.seen.e2<=18446744073709551615:=w.1.2.2.2.2.2.2.2.2.2.2.2.2.2.2.2.2.2.2.2.2.2.2.2.2.2.2.2.2.2.2.2.2.2.2.2.2.2.2.2.2.2.1;have s_x_seen_e3_r:0<=s.x.seen.e3/\s.x.seen.e3<=18446744073709551615:=w.1.2.2.2.2.2.2.2.2.2.2.2.2.2.2.2.2.2.2.2.2.2.2.2.2.2.2.2.2.2.2.2.2.2.2.2.2.2.2.2.2.2.2.1;have s_x_seen_e4_r:0<=s.x.seen.e4/\s.x.seen.e4<=18446744073709551615:=w.1.2.2.2.2.2.2.2.2.2.2.2.2.2.2.2.2.2.2.2.2.2.2.2.2.2.2.2.2.2.2.2.2.2.2.2.2.2.2.2.2.2.2.2.1;have s_x_seen_e5_r:0<=s.x.seen.e5/\s.x.seen.e5<=18446744073709551615:=w.1.2.2.2.2.2.2.2.2.2.2.2.2.2.2.2.2.2.2.2.2.2.2.2.2.2.2.2.2.2.2.2.2.2.2.2.2.2.2.2.2.2.2.2.2.1;have s_x_seen_e6_r:0<=s.x.seen.e6/\s.x.seen.e6<=18446744073709551615:=w.1.2.2.2.2.2.2.2.2.2.2.2.2.2.2.2.2.2.2.2.2.2.2.2.2.2.2.2.2.2.2.2.2.2.2.2.2.2.2.2.2.2.2.2.2.2.1;have s_x_seen_e7_r:0<=s.x.seen.e7/\s.x.seen.e7<=18446744073709551615:=w.1.2.2.2.2.2.2.2.2.2.2.2.2.2.2.2.2.2.2.2.2.2.2.2.2.2.2.2.2.2.2.2.2.2.2.2.2.2.2.2.2.2.2.2.2.2.2.1;have s_x_seen_e8_r:0<=s.x.seen.e8/\s.x.seen.e8<=18446744073709551615:=w.1.2.2.2.2.2.2.2.2.2.2.2.2.2.2.2.2.2.2.2.2.2.2.2.2.2.2.2.2.2.2.2.2.2.2.2.2.2.2.2.2.2.2.2.2.2.2.2.1;have s_x_seen_e9_r:0<=s.x.seen.e9/\s.x.seen.e9<=18446744073709551615:=w.1.2.2.2.2.2.2.2.2.2.2.2.2.2.2.2.2.2.2.2.2.2.2.2.2.2.2.2.2.2.2.2.2.2.2.2.2.2.2.2.2.2.2.2.2.2.2.2.2.1;have s_x_seen_e10_r:0<=s.x.seen.e10/\s.x.seen.e10<=18446744073709551615:=w.1.2.2.2.2.2.2.2.2.2.2.2.2.2.2.2.2.2.2.2.2.2.2.2.2.2.2.2.2.2.2.2.2.2.2.2.2.2.2.2.2.2.2.2.2.2.2.2.2.2.1;have s_x_seen_e11_r:0<=s.x.seen.e11/\s.x.seen.e11<=18446744073709551615:=w.1.2.2.2.2.2.2.2.2.2.2.2.2.2.2.2.2.2.2.2.2.2.2.2.2.2.2.2.2.2.2.2.2.2.2.2.2.2.2.2.2.2.2.2.2.2.2.2.2.2.2.1;have s_x_seen_e12_r:0<=s.x.seen.e12/\s.x.seen.e12<=18446744073709551615:=w.1.2.2.2.2.2.2.2.2.2.2.2.2.2.2.2.2.2.2.2.2.2.2.2.2.2.2.2.2.2.2.2.2.2.2.2.2.2.2.2.2.2.2.2.2.2.2.2.2.2.2.2.1;have s_x_seen_e13_r:0<=s.x.seen.e13/\s.x.seen.e13<=18446744073709551615:=w.1.2.2.2.2.2.2.2.2.2.2.2.2.2.2.2.2.2.2.2.2.2.2.2.2.2.2.2.2.2.2.2.2.2.2.2.2.2.2.2.2.2.2.2.2.2.2.2.2.2.2.2.2.1;have s_x_seen_e14_r:0<=s.x.seen.e14/\s.x.seen.e14<=18446744073709551615:=w.1.2.2.2.2.2.2.2.2.2.2.2.2.2.2.2.2.2.2.2.2.2.2.2.2.2.2.2.2.2.2.2.2.2.2.2.2.2.2.2.2.2.2.2.2.2.2.2.2.2.2.2.2.2.1;have s_x_seen_e15_r:0<=s.x.seen.e15/\s.x.seen.e15<=18446744073709551615:=w.1.2.2.2.2.2.2.2.2.2.2.2.2.2.2.2.2.2.2.2.2.2.2.2.2.2.2.2.2.2.2.2.2.2.2.2.2.2.2.2.2.2.2.2.2.2.2.2.2.2.2.2.2.2.2.1;have s_policy_work_r:-9223372036854775808<=s.policy.work/\s.policy.work<=9223372036854775807:=w.1.2.2.2.2.2.2.2.2.2.2.2.2.2.2.2.2.2.2.2.2.2.2.2.2.2.2.2.2.2.2.2.2.2.2.2.2.2.2.2.2.2.2.2.2.2.2.2.2.2.2.2.2.2.2.2.2.2.2.2.2.2.2.2.2.2.2.2.2.2.2.2.1;have s_policy_give_r:-9223372036854775808<=s.policy.give/\s.policy.give<=9223372036854775807:=w.1.2.2.2.2.2.2.2.2.2.2.2.2.2.2.2.2.2.2.2.2.2.2.2.2.2.2.2.2.2.2.2.2.2.2.2.2.2.2.2.2.2.2.2.2.2.2.2.2.2.2.2.2.2.2.2.2.2.2.2.2.2.2.2.2.2.2.2.2.2.2.2.2.1;have s_policy_places_l:s.policy.places.length<=140737488355328:=w.1.2.2.2.2.2.2.2.2.2.2.2.2.2.2.2.2.2.2.2.2.2.2.2.2.2.2.2.2.2.2.2.2.2.2.2.2.2.2.2.2.2.2.2.2.2.2.2.2.2.2.2.2.2.2.2.2.2.2.2.2.2.2.2.2.2.2.2.2.2.2.2.2.2.1.1;have s_policy_slots_l:s.policy.slots.length<=140737488355328:=w.1.2.2.2.2.2.2.2.2.2.2.2.2.2.2.2.2.2.2.2.2.2.2.2.2.2.2.2.2.2.2.2.2.2.2.2.2.2.2.2.2.2.2.2.2.2.2.2.2.2.2.2.2.2.2.2.2.2.2.2.2.2.2.2.2.2.2.2.2.2.2.2.2.2.2.1.1;have s_policy_grants_l:s.policy.grants.length<=140737488355328:=w.1.2.2.2.2.2.2.2.2.2.2.2.2.2.2.2.2.2.2.2.2.2.2.2.2.2.2.2.2.2.2.2.2.2.2.2.2.2.2.2.2.2.2.2.2.2.2.2.2.2.2.2.2.2.2.2.2.2.2.2.2.2.2.2.2.2.2.2.2.2.2.2.2.2.2.2.1.1;have s_place_r:-9223372036854775808<=s.place/\s.place<=9223372036854775807:=w.1.2.2.2.2.2.2.2.2.2.2.2.2.2.2.2.2.2.2.2.2.2.2.2.2.2.2.2.2.2.2.2.2.2.2.2.2.2.2.2.2.2.2.2.2.2.2.2.2.2.2.2.2.2.2.2.2.2.2.2.2.2.2.2.2.2.2.2.2.2.2.2.2.2.2.2.2.1;have d_kind_r:0<=d.kind/\d.kind<=255:=w.2.1.1;have d_tick_r:0<=d.tick/\d.tick<=18446744073709551615:=w.2.1.2.1;have d_shop_name_l:d.shop.name.length<=9223372036854775807:=w.2.1.2.2.1;have d_shop_sort_r:0<=d.shop.sort/\d.shop.sort<=255:=w.2.1.2.2.2.1;have d_shop_to_l:d.shop.to'.length<=9223372036854775807:=w.2.1.2.2.2.2.1;have d_queue_name_l:d.queue.name.length<=9223372036854775807:=w.2.1.2.2.2.2.2.1;have d_queue_most_r:0<=d.queue.most/\d.queue.most<=18446744073709551615:=w.2.1.2.2.2.2.2.2.1;have d_queue_life_r:0<=d.queue.life/\d.queue.life<=18446744073709551615:=w.2.1.2.2.2.2.2.2.2.1;have d_queue_dead_l:d.queue.dead.length<=9223372036854775807:=w.2.1.2.2.2.2.2.2.2.2.1;have d_bind_shop_l:d.bind.shop.length<=9223372036854775807:=w.2.1.2.2.2.2.2.2.2.2.2.1;have d_bind_to_l:d.bind.to'.length<=9223372036854775807:=w.2.1.2.2.2.2.2.2.2.2.2.2.1;have d_bind_key_l:d.bind.key.length<=9223372036854775807:=w.2.1.2.2.2.2.2.2.2.2.2.2.2.2.1;have d_bind_want_l:d.bind.want.length<=140737488355328:=w.2.1.2.2.2.2.2.2.2.2.2.2.2.2.2.1.1;have d_name_l:d.name.length<=9223372036854775807:=w.2.1.2.2.2.2.2.2.2.2.2.2.2.2.2.2.2.1;have d_id_r:0<=d.id/\d.id<=18446744073709551615:=w.2.1.2.2.2.2.2.2.2.2.2.2.2.2.2.2.2.2.1;have d_how_r:0<=d.how/\d.how<=255:=w.2.1.2.2.2.2.2.2.2.2.2.2.2.2.2.2.2.2.2.1;have d_frm_r:0<=d.frm/\d.frm<=255:=w.2.1.2.2.2.2.2.2.2.2.2.2.2.2.2.2.2.2.2.2.1;have d_code_r:0<=d.code/\d.code<=255:=w.2.1.2.2.2.2.2.2.2.2.2.2.2.2.2.2.2.2.2.2.2.1;have d_number_r:0<=d.number/\d.number<=18446744073709551615:=w.2.1.2.2.2.2.2.2.2.2.2.2.2.2.2.2.2.2.2.2.2.2.1;have d_mail_id_r:0<=d.mail.id/\d.mail.id<=18446744073709551615:=w.2.1.2.2.2.2.2.2.2.2.2.2.2.2.2.2.2.2.2.2.2.2.2.1;have d_mail_shop_l:d.mail.shop.length<=9223372036854775807:=w.2.1.2.2.2.2.2.2.2.2.2.2.2.2.2.2.2.2.2.2.2.2.2.2.1;have d_mail_key_l:d.mail.key.length<=9223372036854775807:=w.2.1.2.2.2.2.2.2.2.2.2.2.2.2.2.2.2.2.2.2.2.2.2.2.2.1;have d_mail_head_l:d.mail.head.length<=140737488355328:=w.2.1.2.2.2.2.2.2.2.2.2.2.2.2.2.2.2.2.2.2.2.2.2.2.2.2.1.1;have d_mail_body_l:d.mail.body.length<=9223372036854775807:=w.2.1.2.2.2.2.2.2.2.2.2.2.2.2.2.2.2.2.2.2.2.2.2.2.2.2.2.1;have d_mail_due_r:0<=d.mail.due/\d.mail.due<=18446744073709551615:=w.2.1.2.2.2.2.2.2.2.2.2.2.2.2.2.2.2.2.2.2.2.2.2.2.2.2.2.2.1;have d_mail_hops_r:0<=d.mail.hops/\d.mail.hops<=255:=w.2.1.2.2.2.2.2.2.2.2.2.2.2.2.2.2.2.2.2.2.2.2.2.2.2.2.2.2.2.1;have d_text_l:d.text.length<=9223372036854775807:=w.2.1.2.2.2.2.2.2.2.2.2.2.2.2.2.2.2.2.2.2.2.2.2.2.2.2.2.2.2.2.1;have hs0:=hs;obtain⟨⟨⟨hb1,hb2,hb3⟩,hk0,hn,hu⟩,hp0,hq1,hq2⟩:=hs0;have hpp:=hp0;obtain⟨hp1,hp2,hp3,hp4,hp5,hp6,hp7⟩:=hpp;have hk1:=hk0;obtain⟨⟨hr1,hr2,hr3⟩,hr4,hr5,hr6⟩:=hk1;have hd0:=hd;obtain⟨hd1,hd2,hd3,hd4⟩:=hd0;have e0:=K_.eq_1 s d;generalize K_ s d=z at e0 ⊢;refine gm tv98 13 [0,1,2,3] fun B2=>?_;refine call (Pt_ _) rfl rfl fun w6=>?_;have :=Ux_ d;refine gx tv98 9 ?_;refine cN e0 (fun p9 e10=>?_) (fun p13 e14=>?_)
  · refine gm tv98 12 [] fun _=>?_;subst e10;exact qr3
  refine gm tv98 14 [4,5] fun B16=>?_;obtain⟨o,e_o,q_o⟩:=lt3_split e14;refine Hr_ (ι:=Int×B_×Q_) [2,4,5,6,8,9] [1,2,3,4] (fun ⟨e_1,x,x1⟩=>[(10, .int .i64 e_1)]) (fun ⟨e_1,x,x1⟩=>[(0, .box (B2 0) 54 (B_.pc x)),(5, .box (B16 1) 77 (Q_.pc x1))]) (fun ⟨e_1,x,x1⟩=>o=(e_1,x,x1)) ?_ ?_
  · refine gx tv98 8 ?_;obtain⟨o1,e_o1,q_o1⟩:=Hw_ e_o;refine Hr_ (ι:=Bool) [2,3,4,5,6,8,9,10,21] [0,1,2,3,4,5] (fun v=>[(28, .bool v)]) (fun v=>[]) (fun v=>o1=v) ?_ ?_
    · refine gx tv98 6 ?_;refine cD e_o1 (fun p19 e20=>?_) (fun p21 e22=>?_)
      · refine gx tv98 1 ?_;refine nX (decide (d.kind=2)) ?_ ⟨rfl,trivial⟩ trivial;exact e20
      refine gx tv98 4 ?_;refine nX (decide (d.kind=3)) ?_ ⟨rfl,trivial⟩ trivial;exact e22
    rintro v hp23;have e24:=K1_ q_o1 hp23;refine gx tv98 1 ?_;refine cE e24 (fun h25 e26=>?_) (fun h25 e31=>?_)
    · refine gx tv98 3 ?_;refine cV e26 R18_ (J3_ _ _) rfl fun r hr27 e29 w28=>?_;refine gm tv98 7 [] fun _=>?_;refine nX ⟨r.2,r.1,(⟨(⟨(⟨0,[],[],[],[],0,0⟩:Mail),false,false⟩:ItemR),0,0⟩:Q_)⟩ ?_ ⟨rfl,trivial⟩ ⟨rfl,rfl,trivial⟩;exact e29
    refine gx tv98 6 ?_;refine cD e31 (fun p33 e34=>?_) (fun p39 e40=>?_)
    · refine gx tv98 3 ?_;refine cV e34 R22_ (L7_ _ _) rfl fun r1 hr35 e37 w36=>?_;refine gm tv98 9 [] fun _=>?_;refine nX ⟨r1.2.2,r1.1,r1.2.1⟩ ?_ ⟨rfl,trivial⟩ ⟨rfl,rfl,trivial⟩;exact e37
    refine gx tv98 6 ?_;refine cD e40 (fun p42 e43=>?_) (fun p48 e49=>?_)
    · refine gx tv98 3 ?_;refine cV e43 R22_ (Le_ _ _) rfl fun r2 hr44 e46 w45=>?_;refine gm tv98 9 [] fun _=>?_;refine nX ⟨r2.2.2,r2.1,r2.2.1⟩ ?_ ⟨rfl,trivial⟩ ⟨rfl,rfl,trivial⟩;exact e46
    refine gx tv98 6 ?_;refine cD e49 (fun p51 e52=>?_) (fun p57 e58=>?_)
    · refine gx tv98 3 ?_;refine cV e52 R22_ (J4_ _ _) rfl fun r3 hr53 e55 w54=>?_;refine gm tv98 9 [] fun _=>?_;refine nX ⟨r3.2.2,r3.1,r3.2.1⟩ ?_ ⟨rfl,trivial⟩ ⟨rfl,rfl,trivial⟩;exact e55
    refine gx tv98 6 ?_;refine cD e58 (fun p60 e61=>?_) (fun p66 e67=>?_)
    · refine gx tv98 4 ?_;refine cV e61 R23_ (Ld_ _ _) rfl fun r4 hr62 e64 w63=>?_;refine gm tv98 7 [] fun _=>?_;refine nX ⟨0,r4.1,r4.2⟩ ?_ ⟨rfl,trivial⟩ ⟨rfl,rfl,trivial⟩;exact e64
    refine gx tv98 6 ?_;refine cD e67 (fun p69 e70=>?_) (fun p75 e76=>?_)
    · refine gx tv98 3 ?_;refine cV e70 R22_ (Lf_ _ _) rfl fun r5 hr71 e73 w72=>?_;refine gm tv98 9 [] fun _=>?_;refine nX ⟨r5.2.2,r5.1,r5.2.1⟩ ?_ ⟨rfl,trivial⟩ ⟨rfl,rfl,trivial⟩;exact e73
    refine gx tv98 6 ?_;refine cD e76 (fun p78 e79=>?_) (fun p90 e91=>?_)
    · refine gx tv98 5 ?_;refine cV e79 R6_ (Lc_ _) rfl fun r6 hr80 e82 w81=>?_;have hA82:=Wm_ (s:=s.x.stock) (by first|assumption|exact StOk.stk (by assumption))
      (try rw[<- hr80] at hA82)
      refine gm tv98 9 [] fun _=>?_;refine cV e82 R21_ (D6_ (⟨(⟨s.x.book,r6,s.x.notes,s.x.seen,s.x.spent⟩:Ar_),s.policy,s.place⟩:B_) _ _ _) rfl fun r7 hr85 e87 w86=>?_
      (try have hA87:=Ha_ (s:=(⟨(⟨s.x.book,r6,s.x.notes,s.x.seen,s.x.spent⟩:Ar_),s.policy,s.place⟩:B_)) (t:=d.tick) (k:=3) (x:=[]) (by first|assumption|exact Bt_ (by assumption));(try rw[<- hr85] at hA87);obtain⟨hA87_0,hA87_1⟩:=hA87)
      refine gm tv98 3 [] fun _=>?_;refine nX ⟨0,r7,(⟨(⟨(⟨0,[],[],[],[],0,0⟩:Mail),false,false⟩:ItemR),0,0⟩:Q_)⟩ ?_ ⟨rfl,trivial⟩ ⟨rfl,rfl,trivial⟩;exact e87
    refine gx tv98 6 ?_;refine cD e91 (fun p93 e94=>?_) (fun p99 e100=>?_)
    · refine gx tv98 11 ?_;refine cV e94 R9_ (Gb_ _ (⟨d.tick,d.code,d.text⟩:NoteR)) rfl fun r8 hr95 e97 w96=>?_;refine gm tv98 9 [] fun _=>?_;refine nX ⟨r8.2,(⟨(⟨s.x.book,s.x.stock,r8.1,s.x.seen,s.x.spent⟩:Ar_),s.policy,s.place⟩:B_),(⟨(⟨(⟨0,[],[],[],[],0,0⟩:Mail),false,false⟩:ItemR),0,0⟩:Q_)⟩ ?_ ⟨rfl,trivial⟩ ⟨rfl,rfl,trivial⟩;exact e97
    refine gx tv98 3 ?_;refine cV e100 R18_ (Ks_ _ _) rfl fun r9 hr101 e103 w102=>?_;refine gm tv98 7 [] fun _=>?_;refine nX ⟨r9.2,r9.1,(⟨(⟨(⟨0,[],[],[],[],0,0⟩:Mail),false,false⟩:ItemR),0,0⟩:Q_)⟩ ?_ ⟨rfl,trivial⟩ ⟨rfl,rfl,trivial⟩;exact e103
  rintro⟨e_1,x,x1⟩ hp105;have e106:=lt3_fin q_o hp105;refine gx tv98 8 ?_;refine cN e106 (fun p109 e110=>?_) (fun p113 e114=>?_)
  · refine gm tv98 12 [] fun _=>?_;subst e110;exact qr3
  refine gx tv98 3 ?_;refine aN [2,3,6,7,8,9,10,11] 5 mixd ?_;refine gX tv98 [0,1] 3 ?_;refine vE 2 rfl (sA tv98 ?_);refine vT 3 rfl (sA tv98 ?_);refine gX tv98 [4] 0 ?_;refine vD ?_;refine gx tv98 2 ?_;subst e114;exact qr3
theorem ag90:Ag Tryz.prog 90 false:=fun w=>by kernel_rfl
theorem eqg92:Tryz.prog.eqGuardType Tryz.prog.depth 92=false:=by kernel_rfl
theorem veq92 (p q:LabelR):∀ (H:Hp) (vs us:List Value),Sims H (LabelR.pc p) vs->Sims H (LabelR.pc q) us->EqV Tryz.prog 10000 92 (.agg vs.toArray) (.agg us.toArray) (decide (p=q)):=by
  intro H vs us hv hu;obtain⟨_,_,rfl,v0,v_0⟩:=hv.inv_cons;obtain⟨_,_,rfl,v1,v_1⟩:=v_0.inv_cons
  cases v_1.inv_nil
  cases v0.inv_int.1;cases v1.inv_int.1
  obtain⟨_,_,rfl,u0,u_0⟩:=hu.inv_cons;obtain⟨_,_,rfl,u1,u_1⟩:=u_0.inv_cons
  cases u_1.inv_nil
  cases u0.inv_int.1;cases u1.inv_int.1
  exact EqV.to' (Gm_ Tryz.underlying92 (by kernel_rfl) (Fq_ (by decide) ag5 rfl rfl (Bb_ Tryz.underlying5) (Fq_ (by decide) ag90 rfl rfl (Bb_ Tryz.underlying90) Gl_))) (by obtain⟨a0,a1⟩:=p;obtain⟨b0,b1⟩:=q;rw[Bool.eq_iff_iff];simp)
abbrev ty69:TI:=⟨.slc 148,1,24,[.sl PlaceR.pc []]⟩
abbrev ty70:TI:=⟨.slc 149,1,24,[.sl GrantR.pc []]⟩
abbrev ty72:TI:=⟨.agg [(0,1),(1,1),(2,1),(3,1),(4,1)],5,88,[.int .i64 0, .int .i64 0, .sl PlaceR.pc [], .sl i64c [], .sl GrantR.pc []]⟩
abbrev ty148:TI:=⟨.agg [(0,1),(1,2),(3,1),(4,1)],5,40,[.str [], .int .u8 0, .int .u32 0, .int .i64 0, .int .u64 0]⟩
abbrev ty149:TI:=⟨.agg [(0,1),(1,1),(2,1)],3,24,[.int .i64 0, .int .i64 0, .int .i64 0]⟩
def tbv99:Tb:=[(3,ty3),(5,ty5),(9,ty9),(22,ty22),(23,ty23),(24,ty24),(26,ty26),(36,ty36),(69,ty69),(70,ty70),(72,ty72),(90,ty90),(92,ty92),(94,ty94),(148,ty148),(149,ty149)]
theorem tv99:tbB Tryz.prog tbv99=true:=by kernel_rfl
theorem P7_ (a:LabelR) (i:Int) (hi:0<=i/\i<32:=by omega):Fn Tryz.prog gb 190 [.agg (LabelR.pc a), .int .i64 i] (.bool (Ru_ a i)):=by
  refine fC Tryz.func190 tv99 Tryz.ntmps190 fun w N H hG=>?_;have a_level_r:0<=a.level/\a.level<=255:=w.1.1;have a_set__r:0<=a.set_/\a.set_<=4294967295:=w.1.2.1;have i_r:-9223372036854775808<=i/\i<=9223372036854775807:=w.2.1;have hf0:=has_fd a i (by omega);have e0:=Ru_.eq_1 a i;refine gmy tv99 18 [0] fun B2=>?_;exact rt1 rfl rfl (S_ (fun r:Bool=> .bool r) e0 (ple rfl))
theorem T8_ (a:LabelR) (b:LabelR):Fn Tryz.prog gb 105 [.agg (LabelR.pc a), .agg (LabelR.pc b)] (.bool (L4_ a b)):=by
  refine fC Tryz.func105 tv99 Tryz.ntmps105 fun w N H hG=>?_;have e0:=L4_.eq_1 a b;generalize L4_ a b=z at e0 ⊢;refine gm tv99 17 [0,1] fun B2=>?_;refine cD e0 (fun p5 e6=>?_) (fun p7 e8=>?_)
  · refine gx tv99 7 ?_;subst e6;exact qr1
  refine gx tv99 9 ?_;refine loop (ι:=Nat×Nat) [2,3] [0,1] (fun ⟨f,i⟩=>[(5, .int .i64 (i:Int))]) (fun ⟨f,i⟩=>[]) (fun ⟨f,i⟩=>32-i<f/\z=Ic_ a b f i) (fun ⟨f,i⟩=>f) ⟨(32-0+1),0⟩ ⟨rfl,trivial⟩ trivial ?_ ?_
  · exact⟨Nat.lt_succ_self _,e8⟩
  rintro⟨f,i⟩ ⟨hp9_1,hp9_2⟩;obtain⟨f1,rfl⟩:∃ q,f=q+1:=⟨f-1,by omega⟩;have e_f1:=hp9_2.trans (Ic_.eq_2 _ _ _ _);refine gx tv99 7 ?_;refine cD e_f1 (fun p11 e12=>?_) (fun p20 e21=>?_)
  · refine gx tv99 8 ?_;refine call (P7_ _ _) rfl rfl fun w13=>?_;refine gx tv99 3 ?_;refine callg rfl (fun hc=>(P7_ _ _)) rfl ⟨(fun hc=>hc),(fun hc=>hc),trivial⟩ rfl rfl fun _=>?_;refine gy tv99 4 ?_;refine cE e12 (fun h14 e18=>?_) (fun h14 e19=>?_)
    · have h15:=bl h14;have h16:=br h14;have h17:=Cp_ h16;refine gx tv99 11 ?_;subst e18;exact qr1
    refine gy tv99 8 ?_;refine next ⟨f1,(i+1)⟩ rfl rfl ⟨rfl,trivial⟩ trivial ?_ ?_
    · (try simp only[]);omega
    exact⟨by (try simp only[]);omega,e19⟩
  refine gx tv99 11 ?_;subst e21;exact qr1
theorem T9_ (p:PolicyR):Fn Tryz.prog gb 46 [.agg (PolicyR.pc p)] (.int .i64 (Jy_ p)):=by
  refine fC Tryz.func46 tv99 Tryz.ntmps46 fun w N H hG=>?_;have p_places_l:p.places.length<=140737488355328:=w.1.2.2.1.1;have p_slots_l:p.slots.length<=140737488355328:=w.1.2.2.2.1.1;have p_grants_l:p.grants.length<=140737488355328:=w.1.2.2.2.2.1.1;have e0:=Jy_.eq_1 p;generalize Jy_ p=z at e0 ⊢;refine gmy tv99 29 [0] fun B2=>?_;refine cE e0 (fun h3 e4=>?_) (fun h3 e15=>?_)
  · refine gx tv99 7 ?_;subst e4;exact qr1
  have h5:=orl h3;have h6:=orl h5;have h7:=orl h6;have p8:=df h7;have h9:=orr h6;have p10:=df h9;have h11:=orr h5;have p12:=df h11;have h13:=orr h3;have p14:=df h13;refine gx tv99 17 ?_;refine cD e15 (fun p17 e18=>?_) (fun p19 e20=>?_)
  · refine gx tv99 7 ?_;subst e18;exact qr1
  refine gx tv99 9 ?_;refine cD e20 (fun p22 e23=>?_) (fun p24 e25=>?_)
  · refine gx tv99 7 ?_;subst e23;exact qr1
  refine gx tv99 12 ?_;refine loop (ι:=Nat) [1,3,45,46] [0] (fun k=>[(47, .int .i64 (k:Int))]) (fun k=>[]) (fun k=>k<=p.places.length/\z=Dv_ p (p.places.drop k) k) (fun k=>p.places.length-k) 0 ⟨rfl,trivial⟩ trivial ?_ ?_
  · exact⟨Nat.zero_le _,e25⟩
  rintro k ⟨hp26_1,hp26_2⟩;refine gx tv99 6 ?_;refine cn rfl (fun p28=>?_) fun p78=>?_
  · have e29:=Cc_ (f:=fun zz=>Dv_ p zz k) hp26_2 (Fj_ (by omega)) (Dv_.eq_2 _ _ _ _);refine gx tv99 3 ?_;obtain⟨o,e_o,q_o⟩:=Hv_ e29;refine Hr_ (ι:=Unit) [1,3,45,46,47] [0] (fun _=>[]) (fun _=>[]) (fun _=>o = .fin ()) ?_ ?_
    · have hc30:=getG (xs:=p.places) (k:=k) (by omega);refine gx tv99 4 ?_;refine q1 (qidx tv99 k rfl rfl rfl hc30 rfl rfl rfl rfl) rfl fun w31=>?_;refine gm tv99 10 [1] fun B33=>?_;refine call (r4_Name _) rfl rfl fun w34=>?_;refine gx tv99 10 ?_;refine cN e_o (fun p37 e38=>?_) (fun p41 e42=>?_)
      · refine gx tv99 14 ?_;have e39:=Fl_ q_o e38;subst e39;exact qr1
      refine gy tv99 26 ?_;refine cE e42 (fun h43 e44=>?_) (fun h43 e56=>?_)
      · refine gx tv99 13 ?_;have e45:=Fl_ q_o e44;subst e45;exact qr1
      have h46:=orl h43;have h47:=orl h46;have h48:=orl h47;have p49:=df h48;have h50:=orr h47;have p51:=df h50;have h52:=orr h46;have p53:=df h52;have h54:=orr h43;have p55:=df h54;refine gx tv99 7 ?_;refine q1 (lshi tv99 k rfl rfl rfl rfl rfl (fun _=>rfl) rfl (by omega)) rfl fun w57=>?_;refine gx tv99 5 ?_;refine loop (ι:=Nat) [1,3,5,45,46,47,80,81] [0,1] (fun k1=>[(82, .int .i64 (k1:Int))]) (fun k1=>[]) (fun k1=>k1<=(p.places.take k).length/\o=Eg_ (gt p.places k) ((p.places.take k).drop k1)) (fun k1=>(p.places.take k).length-k1) 0 ⟨rfl,trivial⟩ trivial ?_ ?_
      · exact⟨Nat.zero_le _,e56⟩
      rintro k1 ⟨hp58_1,hp58_2⟩;have hkl:(p.places.take k).length<=p.places.length:=List.length_take_le' ..;refine gx tv99 6 ?_;refine cn rfl (fun p60=>?_) fun p74=>?_
      · have e61:=Cc_ (f:=fun zz=>Eg_ (gt p.places k) zz) hp58_2 (Fj_ (by omega)) (Eg_.eq_2 _ _ _);have hc62:=getG (xs:=(p.places.take k)) (k:=k1) (by omega);refine gx tv99 6 ?_;refine q1 (qidx tv99 k1 rfl rfl rfl hc62 rfl rfl rfl rfl) rfl fun w63=>?_;refine gmy tv99 17 [2] fun B65=>?_;refine q1g [93,95] rfl (fun hc=>saeq rfl rfl eqg92 (veq92 ((gt (p.places.take k) k1).label) ((gt p.places k).label))) ⟨(fun hc=>hc),(fun hc=>hc),trivial⟩ rfl rfl rfl fun _=>?_;refine gy tv99 3 ?_;refine cE e61 (fun h66 e67=>?_) (fun h66 e73=>?_)
        · refine gx tv99 16 ?_;have e68:=Fl_ q_o e67;subst e68;exact qr1
        have h69:=orl h66;have p70:=df h69;have h71:=orr h66;have p72:=df h71;refine gy tv99 7 ?_;refine next (k1+1) rfl rfl ⟨rfl,trivial⟩ trivial ?_ ?_
        · (try simp only[]);omega
        exact⟨by (try simp only[]);omega,e73⟩
      have e75:=Cc_ (f:=fun zz=>Eg_ (gt p.places k) zz) hp58_2 (Fk_ (by omega)) (Eg_.eq_1 _);refine gx tv99 5 ?_;refine nX () ?_ trivial trivial;exact e75
    rintro _ hp76;have e77:=K0_ q_o hp76;refine gy tv99 5 ?_;refine next (k+1) rfl rfl ⟨rfl,trivial⟩ trivial ?_ ?_
    · (try simp only[]);omega
    exact⟨by (try simp only[]);omega,e77⟩
  have e79:=Cc_ (f:=fun zz=>Dv_ p zz k) hp26_2 (Fk_ (by omega)) (Dv_.eq_1 _ _);refine gx tv99 14 ?_;refine cD e79 (fun p81 e82=>?_) (fun p83 e84=>?_)
  · refine gx tv99 7 ?_;subst e82;exact qr1
  refine gx tv99 11 ?_;refine cD e84 (fun p86 e87=>?_) (fun p88 e89=>?_)
  · refine gx tv99 7 ?_;subst e87;exact qr1
  refine gx tv99 12 ?_;refine loop (ι:=Nat) [1,3,109,110] [0] (fun k2=>[(111, .int .i64 (k2:Int))]) (fun k2=>[]) (fun k2=>k2<=p.slots.length/\z=Df_ p (p.slots.drop k2)) (fun k2=>p.slots.length-k2) 0 ⟨rfl,trivial⟩ trivial ?_ ?_
  · exact⟨Nat.zero_le _,e89⟩
  rintro k2 ⟨hp90_1,hp90_2⟩;refine gx tv99 6 ?_;refine cn rfl (fun p92=>?_) fun p103=>?_
  · have e93:=Cc_ (f:=fun zz=>Df_ p zz) hp90_2 (Fj_ (by omega)) (Df_.eq_2 _ _ _);have hc94:=getG (xs:=p.slots) (k:=k2) (by omega);refine gx tv99 6 ?_;refine q1 (qidx tv99 k2 rfl rfl rfl hc94 rfl rfl rfl rfl) rfl fun w95=>?_;refine gy tv99 15 ?_;refine cE e93 (fun h96 e97=>?_) (fun h96 e102=>?_)
    · refine gx tv99 11 ?_;subst e97;exact qr1
    have h98:=orl h96;have p99:=df h98;have h100:=orr h96;have p101:=df h100;refine gy tv99 7 ?_;refine next (k2+1) rfl rfl ⟨rfl,trivial⟩ trivial ?_ ?_
    · (try simp only[]);omega
    exact⟨by (try simp only[]);omega,e102⟩
  have e104:=Cc_ (f:=fun zz=>Df_ p zz) hp90_2 (Fk_ (by omega)) (Df_.eq_1 _);refine gx tv99 14 ?_;refine cD e104 (fun p106 e107=>?_) (fun p108 e109=>?_)
  · refine gx tv99 7 ?_;subst e107;exact qr1
  refine gx tv99 12 ?_;refine loop (ι:=Nat) [1,3,128,129] [0] (fun k3=>[(130, .int .i64 (k3:Int))]) (fun k3=>[]) (fun k3=>k3<=p.grants.length/\z=Dw_ p (p.grants.drop k3) k3) (fun k3=>p.grants.length-k3) 0 ⟨rfl,trivial⟩ trivial ?_ ?_
  · exact⟨Nat.zero_le _,e109⟩
  rintro k3 ⟨hp110_1,hp110_2⟩;refine gx tv99 6 ?_;refine cn rfl (fun p112=>?_) fun p170=>?_
  · have e113:=Cc_ (f:=fun zz=>Dw_ p zz k3) hp110_2 (Fj_ (by omega)) (Dw_.eq_2 _ _ _ _);refine gx tv99 3 ?_;obtain⟨o1,e_o1,q_o1⟩:=Hv_ e113;refine Hr_ (ι:=Unit) [1,3,128,129,130] [0] (fun _=>[]) (fun _=>[]) (fun _=>o1 = .fin ()) ?_ ?_
    · have hc114:=getG (xs:=p.grants) (k:=k3) (by omega);refine gx tv99 4 ?_;refine q1 (qidx tv99 k3 rfl rfl rfl hc114 rfl rfl rfl rfl) rfl fun w115=>?_;refine gmy tv99 31 [1] fun B117=>?_;refine cE e_o1 (fun h118 e119=>?_) (fun h118 e131=>?_)
      · refine gx tv99 13 ?_;have e120:=Fl_ q_o1 e119;subst e120;exact qr1
      have h121:=orl h118;have h122:=orl h121;have h123:=orl h122;have p124:=df h123;have h125:=orr h122;have p126:=df h125;have h127:=orr h121;have p128:=df h127;have h129:=orr h118;have p130:=df h129;refine gx tv99 4 ?_;refine aN [2,3,4,5,6,7] 15 mixd ?_;refine gX tv99 [0,1,2,3] 11 ?_;have hc132:=getG (xs:=p.places) (k:=((gt p.grants k3).frm).toNat) (by omega);refine vq 4 (qidx tv99 ((gt p.grants k3).frm).toNat rfl rfl (by omega) hc132 rfl rfl rfl rfl) rfl (by kernel_rfl) rfl fun w133=>?_;refine gX tv99 [5,6,7,8,9,10] 4 ?_;have hc134:=getG (xs:=p.places) (k:=((gt p.grants k3).to').toNat) (by omega);refine vq 11 (qidx tv99 ((gt p.grants k3).to').toNat rfl rfl (by omega) hc134 rfl rfl rfl rfl) rfl (by kernel_rfl) rfl fun w135=>?_;refine gX tv99 [12,13] 1 ?_;refine vC 14 rfl (T8_ _ _) rfl fun w136=>?_;refine vD ?_;refine gx tv99 1 ?_;refine cE e131 (fun h137 e138=>?_) (fun h137 e140=>?_)
      · refine gx tv99 13 ?_;have e139:=Fl_ q_o1 e138;subst e139;exact qr1
      refine gy tv99 15 ?_;refine cE e140 (fun h141 e142=>?_) (fun h141 e148=>?_)
      · refine gx tv99 13 ?_;have e143:=Fl_ q_o1 e142;subst e143;exact qr1
      have h144:=orl h141;have p145:=df h144;have h146:=orr h141;have p147:=df h146;refine gx tv99 7 ?_;refine q1 (lshi tv99 k3 rfl rfl rfl rfl rfl (fun _=>rfl) rfl (by omega)) rfl fun w149=>?_;refine gx tv99 5 ?_;refine loop (ι:=Nat) [1,3,12,128,129,130,181,182] [0,1] (fun k4=>[(183, .int .i64 (k4:Int))]) (fun k4=>[]) (fun k4=>k4<=(p.grants.take k3).length/\o1=Eh_ (gt p.grants k3) ((p.grants.take k3).drop k4)) (fun k4=>(p.grants.take k3).length-k4) 0 ⟨rfl,trivial⟩ trivial ?_ ?_
      · exact⟨Nat.zero_le _,e148⟩
      rintro k4 ⟨hp150_1,hp150_2⟩;have hkl:(p.grants.take k3).length<=p.grants.length:=List.length_take_le' ..;refine gx tv99 6 ?_;refine cn rfl (fun p152=>?_) fun p166=>?_
      · have e153:=Cc_ (f:=fun zz=>Eh_ (gt p.grants k3) zz) hp150_2 (Fj_ (by omega)) (Eh_.eq_2 _ _ _);have hc154:=getG (xs:=(p.grants.take k3)) (k:=k4) (by omega);refine gx tv99 6 ?_;refine q1 (qidx tv99 k4 rfl rfl rfl hc154 rfl rfl rfl rfl) rfl fun w155=>?_;refine gmy tv99 21 [2] fun B157=>?_;refine cE e153 (fun h158 e163=>?_) (fun h158 e165=>?_)
        · have h159:=bl h158;have p160:=dt h159;have h161:=br h158;have p162:=dt h161;refine gx tv99 16 ?_;have e164:=Fl_ q_o1 e163;subst e164;exact qr1
        refine gy tv99 7 ?_;refine next (k4+1) rfl rfl ⟨rfl,trivial⟩ trivial ?_ ?_
        · (try simp only[]);omega
        exact⟨by (try simp only[]);omega,e165⟩
      have e167:=Cc_ (f:=fun zz=>Eh_ (gt p.grants k3) zz) hp150_2 (Fk_ (by omega)) (Eh_.eq_1 _);refine gx tv99 5 ?_;refine nX () ?_ trivial trivial;exact e167
    rintro _ hp168;have e169:=K0_ q_o1 hp168;refine gy tv99 5 ?_;refine next (k3+1) rfl rfl ⟨rfl,trivial⟩ trivial ?_ ?_
    · (try simp only[]);omega
    exact⟨by (try simp only[]);omega,e169⟩
  have e171:=Cc_ (f:=fun zz=>Dw_ p zz k3) hp110_2 (Fk_ (by omega)) (Dw_.eq_1 _ _);refine gx tv99 12 ?_;refine loop (ι:=Nat×Nat) [1,3] [0] (fun ⟨f,i⟩=>[(15, .int .i64 (i:Int))]) (fun ⟨f,i⟩=>[]) (fun ⟨f,i⟩=>p.places.length-i<f/\z=Id_ p f i) (fun ⟨f,i⟩=>f) ⟨(p.places.length-0+1),0⟩ ⟨rfl,trivial⟩ trivial ?_ ?_
  · exact⟨Nat.lt_succ_self _,e171⟩
  rintro⟨f,i⟩ ⟨hp172_1,hp172_2⟩;obtain⟨f1,rfl⟩:∃ q,f=q+1:=⟨f-1,by omega⟩;have e_f1:=hp172_2.trans (Id_.eq_2 _ _ _);refine gx tv99 8 ?_;refine cD e_f1 (fun p174 e175=>?_) (fun p192 e193=>?_)
  · refine gx tv99 3 ?_;obtain⟨o2,e_o2,q_o2⟩:=Hv_ e175;refine Hr_ (ι:=Unit) [1,3,15] [0] (fun _=>[]) (fun _=>[]) (fun _=>o2 = .fin ()) ?_ ?_
    · refine gx tv99 16 ?_;refine loop (ι:=Nat×Bool) [1,3,15,207,208] [0] (fun ⟨k5,has⟩=>[(209, .int .i64 (k5:Int)),(16, .bool has)]) (fun ⟨k5,has⟩=>[]) (fun ⟨k5,has⟩=>k5<=p.slots.length/\o2=Fa_ i (p.slots.drop k5) has) (fun ⟨k5,has⟩=>p.slots.length-k5) ⟨0,false⟩ ⟨rfl,rfl,trivial⟩ trivial ?_ ?_
      · exact⟨Nat.zero_le _,e_o2⟩
      rintro⟨k5,has⟩ ⟨hp176_1,hp176_2⟩;refine gx tv99 6 ?_;refine cn rfl (fun p178=>?_) fun p182=>?_
      · have e179:=Cc_ (f:=fun zz=>Fa_ i zz has) hp176_2 (Fj_ (by omega)) (Fa_.eq_2 _ _ _ _);have hc180:=getG (xs:=p.slots) (k:=k5) (by omega);refine gx tv99 6 ?_;refine q1 (qidx tv99 k5 rfl rfl rfl hc180 rfl rfl rfl rfl) rfl fun w181=>?_;refine gy tv99 19 ?_;refine next ⟨(k5+1),(has||(decide ((gt p.slots k5)=(i:Int))))⟩ rfl rfl ⟨rfl,rfl,trivial⟩ trivial ?_ ?_
        · (try simp only[]);omega
        exact⟨by (try simp only[]);omega,e179⟩
      have e183:=Cc_ (f:=fun zz=>Fa_ i zz has) hp176_2 (Fk_ (by omega)) (Fa_.eq_1 _ _);refine gx tv99 11 ?_;refine cE e183 (fun h184 e186=>?_) (fun h184 e189=>?_)
      · have h185:=Cp_ h184;refine gx tv99 12 ?_;have e187:=Fl_ q_o2 e186;subst e187;exact qr1
      have h188:=Co_ h184;refine gx tv99 2 ?_;refine nX () ?_ trivial trivial;exact e189
    rintro _ hp190;have e191:=K0_ q_o2 hp190;refine gy tv99 6 ?_;refine next ⟨f1,(i+1)⟩ rfl rfl ⟨rfl,trivial⟩ trivial ?_ ?_
    · (try simp only[]);omega
    exact⟨by (try simp only[]);omega,e191⟩
  refine gx tv99 11 ?_;subst e193;exact qr1
theorem l23_At_ok (p:PolicyR) (n:Int) (hs:0<p.places.length:=by omega):Fn Tryz.prog gb 12 [.agg (PolicyR.pc p), .int .u8 n] (.int .i64 (Jo_ p n)):=by
  refine fC Tryz.func12 tv99 Tryz.ntmps12 fun w N H hG=>?_;have p_places_l:p.places.length<=140737488355328:=w.1.2.2.1.1;have p_slots_l:p.slots.length<=140737488355328:=w.1.2.2.2.1.1;have p_grants_l:p.grants.length<=140737488355328:=w.1.2.2.2.2.1.1;have n_r:0<=n/\n<=255:=w.2.1;have e0:=Jo_.eq_1 p n;refine gmy tv99 18 [0] fun B2=>?_;exact rt1 rfl rfl (S_ (fun r:Int=> .int .i64 r) e0 (ple rfl))
theorem Tc_ (p:PolicyR):Fn Tryz.prog gb 45 [.agg (PolicyR.pc p)] (.bool (In_ p)):=by
  refine fC Tryz.func45 tv99 Tryz.ntmps45 fun w N H hG=>?_;have p_places_l:p.places.length<=140737488355328:=w.1.2.2.1.1;have p_slots_l:p.slots.length<=140737488355328:=w.1.2.2.2.1.1;have p_grants_l:p.grants.length<=140737488355328:=w.1.2.2.2.2.1.1;have e0:=In_.eq_1 p;generalize In_ p=z at e0 ⊢;refine gmy tv99 27 [0] fun B2=>?_;refine cE e0 (fun h3 e4=>?_) (fun h3 e12=>?_)
  · refine gx tv99 7 ?_;subst e4;exact qr1
  have h5:=orl h3;have h6:=orl h5;have p7:=df h6;have h8:=orr h5;have p9:=df h8;have h10:=orr h3;have p11:=df h10;refine gx tv99 12 ?_;refine loop (ι:=Nat) [22,23] [0] (fun k=>[(24, .int .i64 (k:Int))]) (fun k=>[]) (fun k=>k<=p.places.length/\z=E8_ (p.places.drop k)) (fun k=>p.places.length-k) 0 ⟨rfl,trivial⟩ trivial ?_ ?_
  · exact⟨Nat.zero_le _,e12⟩
  rintro k ⟨hp13_1,hp13_2⟩;refine gx tv99 6 ?_;refine cn rfl (fun p15=>?_) fun p26=>?_
  · have e16:=Cc_ (f:=fun zz=>E8_ zz) hp13_2 (Fj_ (by omega)) (E8_.eq_2 _ _);have hc17:=getG (xs:=p.places) (k:=k) (by omega);refine gx tv99 6 ?_;refine q1 (qidx tv99 k rfl rfl rfl hc17 rfl rfl rfl rfl) rfl fun w18=>?_;refine gm tv99 13 [1] fun B20=>?_;refine cD e16 (fun p22 e23=>?_) (fun p24 e25=>?_)
    · refine gx tv99 11 ?_;subst e23;exact qr1
    refine gy tv99 7 ?_;refine next (k+1) rfl rfl ⟨rfl,trivial⟩ trivial ?_ ?_
    · (try simp only[]);omega
    exact⟨by (try simp only[]);omega,e25⟩
  have e27:=Cc_ (f:=fun zz=>E8_ zz) hp13_2 (Fk_ (by omega)) (E8_.eq_1);refine gx tv99 11 ?_;subst e27;exact qr1
abbrev ty72v99b:TI:=⟨.agg [(0,1),(1,1),(2,1),(3,1),(4,1)],5,88,[.int .i64 0, .int .i64 0, .val (.slice none 0 0), .val (.slice none 0 0), .val (.slice none 0 0)]⟩
def tbv99b:Tb:=[(3,ty3),(22,ty22),(23,ty23),(24,ty24),(26,ty26),(69,ty69),(70,ty70),(72,ty72v99b),(87,ty87),(94,ty94),(148,ty148),(149,ty149)]
theorem Ca_:tbB Tryz.prog tbv99b=true:=by kernel_rfl
theorem Z6_ (p:PolicyR) (hp:p.places.length<=100000/\p.slots.length<=100000/\p.grants.length<=100000:=by first|assumption|omega|exact poOk_l (by first|assumption|exact StOk.pol (by assumption))|exact Z7_ (by first|assumption|simpa using hc)):Fn Tryz.prog gb 15 [.agg (PolicyR.pc p)] (.agg (PolicyR.pc (Oa_ p))):=by
  refine fC Tryz.func15 Ca_ Tryz.ntmps15 fun w N H hG=>?_
  have p_places_l:p.places.length<=140737488355328:=w.1.2.2.1.1
  have p_slots_l:p.slots.length<=140737488355328:=w.1.2.2.2.1.1
  have p_grants_l:p.grants.length<=140737488355328:=w.1.2.2.2.2.1.1
  have e0:=Oa_.eq_1 p
  refine gm Ca_ 27 [0,1,2] fun B2=>?_
  refine Pp_ (i:=2) (o:=2) (k:=5) (e:=148) 3 PlaceR.pc rfl (by decide) rfl rfl ?_
  refine Pp_ (i:=2) (o:=3) (k:=1) (e:=3) 4 i64c rfl (by decide) rfl rfl ?_
  refine Pp_ (i:=2) (o:=4) (k:=3) (e:=149) 5 GrantR.pc rfl (by decide) rfl rfl ?_
  refine loop (ι:=Nat×Int×Int×(List PlaceR)×(List Int)×(List GrantR)×Value×Value×Value) [1,2,3,14,15] [0,1] (fun ⟨k,work,give_,places,slots,grants,u_places,u_slots,u_grants⟩=>[(16, .int .i64 (k:Int))]) (fun ⟨k,work,give_,places,slots,grants,u_places,u_slots,u_grants⟩=>[(2, .box (B2 2) 72 [.int .i64 work, .int .i64 give_, .osl 3, .osl 4, .osl 5]),(3, .arr u_places 5 148 PlaceR.pc places),(4, .arr u_slots 1 3 i64c slots),(5, .arr u_grants 3 149 GrantR.pc grants)]) (fun ⟨k,work,give_,places,slots,grants,u_places,u_slots,u_grants⟩=>k<=p.places.length/\Oa_ p=Fs_ p (p.places.drop k) work give_ places slots grants/\places.length<=k/\slots.length=0/\grants.length=0) (fun ⟨k,work,give_,places,slots,grants,u_places,u_slots,u_grants⟩=>p.places.length-k) ⟨0,p.work,p.give,[],[],[],(.slice none 0 0),(.slice none 0 0),(.slice none 0 0)⟩ ⟨rfl,trivial⟩ ⟨rfl,rfl,rfl,rfl,trivial⟩ ?_ ?_
  · exact⟨Nat.zero_le _,e0,⟨by simp,by simp,by simp⟩⟩
  · rintro⟨k,work,give_,places,slots,grants,u_places,u_slots,u_grants⟩ ⟨hp5_1,hp5_2,hp5_3⟩
    refine gx Ca_ 6 ?_
    refine cnd rfl (fun h6=>?_) (fun h6=>?_)
    · have p7:=dt h6
      have e8:=Cc_ (f:=fun zz=>Fs_ p zz work give_ places slots grants) hp5_2 (Fj_ (by omega)) (Fs_.eq_2 _ _ _ _ _ _ _ _)
      have hc9:=getG (xs:=p.places) (k:=k) (by omega)
      refine gx Ca_ 6 ?_
      refine q1 (qidx Ca_ k rfl rfl rfl hc9 rfl rfl rfl rfl) rfl fun w10=>?_
      refine gm Ca_ 9 [6] fun B12=>?_
      refine ef (bsl 7 PlaceR.pc [(gt p.places k)] Ca_ rfl rfl rfl rfl rfl (fun _=>rfl) rfl (by decide) (by decide) rfl fun u13=>?_)
      refine ef (app Ca_ [(gt p.places k)] rfl rfl rfl rfl rfl rfl rfl rfl rfl (src_o rfl rfl) (by first|omega|(simp;omega)) rfl fun u14=>?_)
      refine gx Ca_ 1 ?_
      refine ef (Ja_ Ca_ rfl rfl rfl rfl rfl rfl rfl rfl rfl ?_)
      refine gy Ca_ 7 ?_
      refine next ⟨(k+1),work,give_,(places++[(gt p.places k)]),slots,grants,(u14),(u_slots),(u_grants)⟩ rfl rfl ⟨rfl,trivial⟩ ⟨rfl,rfl,rfl,rfl,trivial⟩ ?_ ?_
      · (try simp only[]);omega
      · exact⟨by (try simp only[]);omega,e8,⟨(by (try simp only[List.length_append,List.length_cons,List.length_nil]);omega),by omega,by omega⟩⟩
    · have p15:=df h6
      have e16:=Cc_ (f:=fun zz=>Fs_ p zz work give_ places slots grants) hp5_2 (Fk_ (by omega)) (Fs_.eq_1 _ _ _ _ _ _)
      refine gx Ca_ 11 ?_
      refine ef (app Ca_ p.slots rfl rfl rfl rfl rfl rfl rfl rfl rfl (src_l rfl (fun _=>rfl)) (by first|omega|(simp;omega)) rfl fun u17=>?_)
      refine gx Ca_ 1 ?_
      refine ef (Ja_ Ca_ rfl rfl rfl rfl rfl rfl rfl rfl rfl ?_)
      refine gx Ca_ 12 ?_
      refine loop (ι:=Nat×Int×Int×(List PlaceR)×(List Int)×(List GrantR)×Value×Value×Value) [2,3,34,35] [0,1] (fun ⟨k1,work1,give_1,places1,slots1,grants1,u_places1,u_slots1,u_grants1⟩=>[(36, .int .i64 (k1:Int))]) (fun ⟨k1,work1,give_1,places1,slots1,grants1,u_places1,u_slots1,u_grants1⟩=>[(2, .box (B2 2) 72 [.int .i64 work1, .int .i64 give_1, .osl 3, .osl 4, .osl 5]),(3, .arr u_places1 5 148 PlaceR.pc places1),(4, .arr u_slots1 1 3 i64c slots1),(5, .arr u_grants1 3 149 GrantR.pc grants1)]) (fun ⟨k1,work1,give_1,places1,slots1,grants1,u_places1,u_slots1,u_grants1⟩=>k1<=p.grants.length/\Oa_ p=Ft_ (p.grants.drop k1) work1 give_1 places1 slots1 grants1/\grants1.length<=k1) (fun ⟨k1,work1,give_1,places1,slots1,grants1,u_places1,u_slots1,u_grants1⟩=>p.grants.length-k1) ⟨0,work,give_,places,(slots++p.slots),grants,(u_places),(u17),(u_grants)⟩ ⟨rfl,trivial⟩ ⟨rfl,rfl,rfl,rfl,trivial⟩ ?_ ?_
      · exact⟨Nat.zero_le _,e16,by omega⟩
      · rintro⟨k1,work1,give_1,places1,slots1,grants1,u_places1,u_slots1,u_grants1⟩ ⟨hp18_1,hp18_2,hp18_3⟩
        refine gx Ca_ 6 ?_
        refine cnd rfl (fun h19=>?_) (fun h19=>?_)
        · have p20:=dt h19
          have e21:=Cc_ (f:=fun zz=>Ft_ zz work1 give_1 places1 slots1 grants1) hp18_2 (Fj_ (by omega)) (Ft_.eq_2 _ _ _ _ _ _ _)
          have hc22:=getG (xs:=p.grants) (k:=k1) (by omega)
          refine gx Ca_ 6 ?_
          refine q1 (qidx Ca_ k1 rfl rfl rfl hc22 rfl rfl rfl rfl) rfl fun w23=>?_
          refine gm Ca_ 9 [6] fun B25=>?_
          refine ef (bsl 7 GrantR.pc [(gt p.grants k1)] Ca_ rfl rfl rfl rfl rfl (fun _=>rfl) rfl (by decide) (by decide) rfl fun u26=>?_)
          refine ef (app Ca_ [(gt p.grants k1)] rfl rfl rfl rfl rfl rfl rfl rfl rfl (src_o rfl rfl) (by first|omega|(simp;omega)) rfl fun u27=>?_)
          refine gx Ca_ 1 ?_
          refine ef (Ja_ Ca_ rfl rfl rfl rfl rfl rfl rfl rfl rfl ?_)
          refine gy Ca_ 7 ?_
          refine next ⟨(k1+1),work1,give_1,places1,slots1,(grants1++[(gt p.grants k1)]),(u_places1),(u_slots1),(u27)⟩ rfl rfl ⟨rfl,trivial⟩ ⟨rfl,rfl,rfl,rfl,trivial⟩ ?_ ?_
          · (try simp only[]);omega
          · exact⟨by (try simp only[]);omega,e21,(by (try simp only[List.length_append,List.length_cons,List.length_nil]);omega)⟩
        · have p28:=df h19
          have e29:=Cc_ (f:=fun zz=>Ft_ zz work1 give_1 places1 slots1 grants1) hp18_2 (Fk_ (by omega)) (Ft_.eq_1 _ _ _ _ _)
          refine gx Ca_ 7 ?_
          refine give 3 rfl ?_
          refine give 4 rfl ?_
          refine give 5 rfl ?_
          refine gm Ca_ 5 [] fun _=>?_
          exact rt1 rfl rfl (S_ (fun r:PolicyR=> .agg (PolicyR.pc r)) e29 (ple rfl))
def tbv99c:Tb:=[(26,ty26)]
theorem Nl_:tbB Tryz.prog tbv99c=true:=by kernel_rfl
theorem Xu_ (p:PolicyR):Fn Tryz.prog gb 10 [.agg (PolicyR.pc p)] (.bool (Ky_ p)):=by
  refine fC Tryz.func10 Nl_ Tryz.ntmps10 fun w N H hG=>?_
  have p_places_l:p.places.length<=140737488355328:=w.1.2.2.1.1
  have p_slots_l:p.slots.length<=140737488355328:=w.1.2.2.2.1.1
  have p_grants_l:p.grants.length<=140737488355328:=w.1.2.2.2.2.1.1
  have e0:=Ky_.eq_1 p
  refine gm Nl_ 9 [0] fun B2=>?_
  refine call (Tc_ _) rfl rfl fun w3=>?_
  refine gx Nl_ 2 ?_
  refine callg rfl (fun hc=>(Z6_ _)) rfl ⟨(fun hc=>hc),trivial⟩ rfl rfl fun _=>?_
  refine callg rfl (fun hc=>(T9_ _)) rfl ⟨(fun hc=>hc),trivial⟩ rfl rfl fun _=>?_
  refine gy Nl_ 6 ?_
  exact rt1 rfl rfl (S_ (fun r:Bool=> .bool r) e0 (ple rfl))
theorem cb295:Z_ Tryz.prog 295:=W_ Tryz.func295 (by kernel_rfl) (by kernel_rfl)
theorem cb355:Z_ Tryz.prog 355:=W_ Tryz.func355 (by kernel_rfl) (by kernel_rfl)
def tbv120:Tb:=[(3,ty3),(5,ty5),(9,ty9),(78,ty78),(87,ty87),(92,ty92),(94,ty94),(303,ty303)]
theorem C3_:tbB Tryz.prog tbv120=true:=by kernel_rfl
theorem strings_SplitL (s p:Bs) (hp:p=[10]) (hs:s.length<4294967281):Fn Tryz.prog gb 246 [.str s, .str p] (.sl strc (cuts 10 s)):=
  ⟨cb246,rfl,fun N H L w us hg hsim hm=>by
    obtain⟨v1,_,rfl,h1,h2⟩:=hsim.inv_cons;obtain⟨v2,_,rfl,h3,h4⟩:=h2.inv_cons
    cases h4.inv_nil
    rw[h1.inv_str.1,h3.inv_str.1]
    refine (SW.strings_SplitL H s p hp (gbML hg) hs N L w hm).mono fun _ _ ⟨v,H',h5,⟨a,c,h6,h7⟩,h8,h9⟩=>⟨v,H',h5,?_,h8,h9⟩
    rw[h6]
    exact Sim.of_slh (k:=1) ⟨h7.1,fun m hm=>by
      obtain⟨cs,hE,hat⟩:=h7.2 m hm;obtain⟨hE1,hE2⟩:=hE;subst hE1;exact⟨_,⟨rfl,Sims.nil.cons (Sim.str hE2),fun u hu=>by simp at hu;subst hu;rfl⟩,hat⟩⟩ (by have :=Uv_ 10 s;omega)⟩
theorem strings_Flds (s:Bs) (hs:s.length<=65536) (hn:(flds s).length<=65536):Fn Tryz.prog gb 295 [.str s, .fn 296 [] []] (.sl strc (flds s)):=
  ⟨cb295,rfl,fun N H L w us hg hsim hm=>by
    obtain⟨v1,_,rfl,h1,h2⟩:=hsim.inv_cons;obtain⟨v2,_,rfl,h3,h4⟩:=h2.inv_cons
    cases h4.inv_nil
    rw[h1.inv_str.1,inv_fn0 h3]
    refine (SW.strings_Flds H s hs N L w hm).mono fun _ _ ⟨v,H',h5,⟨a,c,h6,h7⟩,h8,h9⟩=>⟨v,H',h5,?_,h8,h9⟩
    rw[h6]
    exact Sim.of_slh (k:=1) ⟨h7.1,fun m hm=>by
      obtain⟨cs,hE,hat⟩:=h7.2 m hm;obtain⟨hE1,hE2⟩:=hE;subst hE1;exact⟨_,⟨rfl,Sims.nil.cons (Sim.str hE2),fun u hu=>by simp at hu;subst hu;rfl⟩,hat⟩⟩ (by have :=hn;omega)⟩
theorem strconv_PU (s:Bs) (b z:Int) (hb:b=10) (hz:z=64) (hl:s.length<=19) (h0:0<s.length) (hd:E6_ s=true):Fn Tryz.prog gb 355 [.str s, .int .i64 b, .int .i64 z] (.tup [.int .u64 (dec s:Int), .val .nilIface]):=
  ⟨cb355,rfl,fun N H L w us hg hsim hm=>by
    obtain⟨v1,_,rfl,h1,h2⟩:=hsim.inv_cons;obtain⟨v2,_,rfl,h3,h4⟩:=h2.inv_cons;obtain⟨v3,_,rfl,h5,h6⟩:=h4.inv_cons
    cases h6.inv_nil
    rw[h1.inv_str.1,h3.inv_int.1,h5.inv_int.1]
    subst hb;subst hz;refine (SW.strconv_PU s hl h0 hd w).mono fun _ _ ⟨he,hb⟩=>⟨_,H,he,?_, .refl H,Mem.below hm hb⟩;exact Sim.toTup (Sims.cons (Sim.int (Int.natCast_nonneg _) (dec_ok hl h0 hd).2) (Sims.cons Sim.val Sims.nil))⟩
theorem O1_ (s:Bs) (hs:s.length<=65536:=by omega) (hn:(flds s).length<=65536:=by first|assumption|exact hz_.2.1):Fn Tryz.prog gb 247 [.str s] (.sl strc (G4_ s)):=by
  refine fC Tryz.func247 C3_ Tryz.ntmps247 fun w N H hG=>?_;have s_l:s.length<=9223372036854775807:=w.1;have e0:=G4_.eq_1 s;refine gx C3_ 8 ?_;refine call (strings_Flds _ (by omega) (by assumption)) rfl rfl fun w1=>?_;refine gx C3_ 4 ?_;exact rt1 rfl rfl (S_ (fun r:(List Bs)=> .sl strc r) e0 (ple rfl))
theorem Hy_ (n:Int) (least:Int) (most:Int):Fn Tryz.prog gb 337 [.int .i64 n, .int .i64 least, .int .i64 most] (.int .i64 (F4_ n least most)):=by
  refine fC Tryz.func337 C3_ Tryz.ntmps337 fun w N H hG=>?_;have n_r:-9223372036854775808<=n/\n<=9223372036854775807:=w.1;have least_r:-9223372036854775808<=least/\least<=9223372036854775807:=w.2.1;have most_r:-9223372036854775808<=most/\most<=9223372036854775807:=w.2.2.1;have e0:=F4_.eq_1 n least most;generalize F4_ n least most=z at e0 ⊢;refine gx C3_ 15 ?_;refine cD e0 (fun p2 e3=>?_) (fun p4 e5=>?_)
  · refine gx C3_ 8 ?_;subst e3;exact qr1
  refine gx C3_ 8 ?_;refine cD e5 (fun p7 e8=>?_) (fun p9 e10=>?_)
  · refine gx C3_ 8 ?_;subst e8;exact qr1
  refine gx C3_ 9 ?_;subst e10;exact qr1
theorem M9_ (y:PlaceR) (x1:PlaceR):Fn Tryz.prog gb 356 [.agg (PlaceR.pc y), .el (PlaceR.pc x1) 0] (.bool (Hf_ y x1)):=by
  refine fC Tryz.func356 C3_ Tryz.ntmps356 fun w N H hG=>?_;have e0:=Hf_.eq_1 y x1;refine gmy C3_ 18 [0] fun B2=>?_;refine q1g [11,13] rfl (fun hc=>saeq rfl rfl eqg92 (veq92 y.label x1.label)) ⟨(fun hc=>hc),(fun hc=>hc),trivial⟩ rfl rfl rfl fun _=>?_;refine gy C3_ 5 ?_;exact rt1 rfl rfl (S_ (fun r:Bool=> .bool r) e0 (ple rfl))
theorem M8_ (y:GrantR) (x1:GrantR):Fn Tryz.prog gb 359 [.agg (GrantR.pc y), .el (GrantR.pc x1) 0] (.bool (He_ y x1)):=by
  refine fC Tryz.func359 C3_ Tryz.ntmps359 fun w N H hG=>?_;have e0:=He_.eq_1 y x1;refine gmy C3_ 24 [0] fun B2=>?_;exact rt1 rfl rfl (S_ (fun r:Bool=> .bool r) e0 (ple rfl))
theorem Nw_ (s:List Int) (v:Int):Fn Tryz.prog gb 305 [.sl i64c s, .int .i64 v] (.bool (Jm_ s v)):=by
  refine fC Tryz.func305 C3_ Tryz.ntmps305 fun w N H hG=>?_;have s_l:s.length<=140737488355328:=w.1.1;have v_r:-9223372036854775808<=v/\v<=9223372036854775807:=w.2.1;have e0:=Jm_.eq_1 s v;refine gx C3_ 9 ?_;refine cV e0 R0_ (Zz_ _ _) rfl fun r hr1 e3 w2=>?_;have hA3:=F1_ (fun y=>decide (v=y)) s
  (try rw[<- hr1] at hA3)
  refine gx C3_ 5 ?_;exact rt1 rfl rfl (S_ (fun r:Bool=> .bool r) e3 (ple rfl))
theorem Yx_ (vals:List Int):Fn Tryz.prog gb 301 [.sl i64c vals] (.int .i64 (Sl_ vals)):=by
  refine fC Tryz.func301 C3_ Tryz.ntmps301 fun w N H hG=>?_;have vals_l:vals.length<=140737488355328:=w.1.1;have e0:=Sl_.eq_1 vals;generalize Sl_ vals=z at e0 ⊢;refine gx C3_ 19 ?_;refine loop (ι:=Nat) [3,6,7] [] (fun k=>[(8, .int .i64 (k:Int))]) (fun k=>[]) (fun k=>k<=vals.length/\z=Hp_ (vals.drop k)) (fun k=>vals.length-k) 0 ⟨rfl,trivial⟩ trivial ?_ ?_
  · exact⟨Nat.zero_le _,e0⟩
  rintro k ⟨hp1_1,hp1_2⟩;refine gx C3_ 6 ?_;refine cn rfl (fun p3=>?_) fun p14=>?_
  · have e4:=Cc_ (f:=fun zz=>Hp_ zz) hp1_2 (Fj_ (by omega)) (Hp_.eq_2 _ _);have hc5:=getG (xs:=vals) (k:=k) (by omega);refine gx C3_ 6 ?_;refine q1 (qidx C3_ k rfl rfl rfl hc5 rfl rfl rfl rfl) rfl fun w6=>?_;refine gx C3_ 11 ?_;refine cN e4 (fun p9 e10=>?_) (fun p12 e13=>?_)
    · refine gx C3_ 12 ?_;subst e10;exact qr1
    refine gy C3_ 7 ?_;refine next (k+1) rfl rfl ⟨rfl,trivial⟩ trivial ?_ ?_
    · (try simp only[]);omega
    exact⟨by (try simp only[]);omega,e13⟩
  have e15:=Cc_ (f:=fun zz=>Hp_ zz) hp1_2 (Fk_ (by omega)) (Hp_.eq_1);refine gx C3_ 12 ?_;subst e15;exact qr1
theorem M3_ (a:LabelR):Fn Tryz.prog gb 357 [.agg (LabelR.pc a)] (.bool (F7_ a)):=by
  refine fC Tryz.func357 C3_ Tryz.ntmps357 fun w N H hG=>?_;have e0:=F7_.eq_1 a;refine gm C3_ 15 [0] fun B2=>?_;exact rt1 rfl rfl (S_ (fun r:Bool=> .bool r) e0 (ple rfl))
theorem Io_ (s:Bs) (most:Int) (hm:0<=most/\most<=1000:=by omega):Fn Tryz.prog gb 341 [.str s, .int .i64 most] (.tup [.int .i64 ((Cd_ s most).1), .str ((Cd_ s most).2.1), .int .i64 ((Cd_ s most).2.2)]):=by
  refine fC Tryz.func341 C3_ Tryz.ntmps341 fun w N H hG=>?_;have s_l:s.length<=9223372036854775807:=w.1;have most_r:-9223372036854775808<=most/\most<=9223372036854775807:=w.2.1;have e0:=Cd_.eq_1 s most;generalize Cd_ s most=z at e0 ⊢;refine gx C3_ 18 ?_;obtain⟨o,e_o,q_o⟩:=lt2_split e0;refine Hr_ (ι:=Int×Int) [0,1,4,5,6] [] (fun ⟨k,n⟩=>[(7, .int .i64 k),(8, .int .i64 n)]) (fun ⟨k,n⟩=>[]) (fun ⟨k,n⟩=>o=(k,n)/\0<=k/\k<=s.length) ?_ ?_
  · refine gx C3_ 1 ?_;refine loop (ι:=Nat×Nat×Int) [0,1,4,5,6] [] (fun ⟨f,k1,n1⟩=>[(7, .int .i64 (k1:Int)),(8, .int .i64 n1)]) (fun ⟨f,k1,n1⟩=>[]) (fun ⟨f,k1,n1⟩=>s.length-k1<f/\o=B8_ s most f k1 n1/\k1<=s.length/\0<=n1/\n1<=10*most+9) (fun ⟨f,k1,n1⟩=>f) ⟨(s.length-0+1),0,0⟩ ⟨rfl,rfl,trivial⟩ trivial ?_ ?_
    · exact⟨Nat.lt_succ_self _,e_o,⟨by omega,by omega,by omega⟩⟩
    rintro⟨f,k1,n1⟩ ⟨hp1_1,hp1_2,hp1_3⟩;obtain⟨hi1,hi2,hi3⟩:=hp1_3;obtain⟨f1,rfl⟩:∃ q,f=q+1:=⟨f-1,by omega⟩;have e_f1:=hp1_2.trans (B8_.eq_2 _ _ _ _ _);refine gx C3_ 9 ?_;refine cD e_f1 (fun p3 e4=>?_) (fun p18 e19=>?_)
    · have :=u8r (s.getD k1 0);refine gx C3_ 8 ?_;refine q1 (sidx C3_ k1 rfl rfl rfl rfl rfl (by omega)) rfl fun w5=>?_;refine gy C3_ 15 ?_;refine cE e4 (fun h6 e7=>?_) (fun h6 e12=>?_)
      · refine gx C3_ 6 ?_;refine nX ⟨(k1:Int),n1⟩ ?_ ⟨rfl,rfl,trivial⟩ trivial;exact⟨e7,⟨by omega,by omega⟩⟩
      have h8:=orl h6;have p9:=df h8;have h10:=orr h6;have p11:=df h10;refine gx C3_ 8 ?_;refine cD e12 (fun p14 e15=>?_) (fun p16 e17=>?_)
      · have :=wr_u8 (((s.getD k1 0).toNat:Int)-48);refine gy C3_ 17 ?_;refine next ⟨f1,(k1+1),((10*n1)+(IntKind.wrap .u8 (((s.getD k1 0).toNat:Int)-48)))⟩ rfl rfl ⟨rfl,rfl,trivial⟩ trivial ?_ ?_
        · (try simp only[]);omega
        exact⟨by (try simp only[]);omega,e15,⟨by omega,by first|omega|(simp only[IntKind.wrap_u8];omega),by first|omega|(simp only[IntKind.wrap_u8];omega)⟩⟩
      refine gy C3_ 9 ?_;refine next ⟨f1,(k1+1),n1⟩ rfl rfl ⟨rfl,rfl,trivial⟩ trivial ?_ ?_
      · (try simp only[]);omega
      exact⟨by (try simp only[]);omega,e17,⟨by omega,by first|omega|(simp only[IntKind.wrap_u8];omega),by first|omega|(simp only[IntKind.wrap_u8];omega)⟩⟩
    refine gx C3_ 4 ?_;refine nX ⟨(k1:Int),n1⟩ ?_ ⟨rfl,rfl,trivial⟩ trivial;exact⟨e19,⟨by omega,by omega⟩⟩
  rintro⟨k,n⟩ ⟨hp20,hp20_3⟩;have e21:=lt2_fin q_o hp20;refine gy C3_ 15 ?_;refine cE e21 (fun h22 e27=>?_) (fun h22 e28=>?_)
  · have h23:=bl h22;have p24:=dt h23;have h25:=br h22;have p26:=dt h25;refine gx C3_ 11 ?_;subst e27;exact qr3
  refine gx C3_ 1 ?_;obtain⟨o1,e_o1,q_o1⟩:=Hw_ e28;refine Hr_ (ι:=Bool) [0,1,4,5,6,7,8] [] (fun v=>[(44, .bool v)]) (fun v=>[]) (fun v=>o1=v) ?_ ?_
  · refine gx C3_ 7 ?_;refine cD e_o1 (fun p30 e31=>?_) (fun p32 e33=>?_)
    · refine gx C3_ 1 ?_;refine nX (decide (k=0)) ?_ ⟨rfl,trivial⟩ trivial;exact e31
    have :=u8r (s.getD 0 0);refine gx C3_ 5 ?_;refine q1g [50] rfl (fun hc=>sidx C3_ 0 rfl rfl rfl rfl rfl (by first|omega|(simp only[gOf,bl2] at *;omega))) ⟨(fun hc=>hc),trivial⟩ rfl rfl rfl fun _=>?_;refine gy C3_ 4 ?_;refine nX ((decide (1<k))&&(decide (((s.getD 0 0).toNat:Int)=48))) ?_ ⟨rfl,trivial⟩ trivial;exact e33
  rintro v hp34;have e35:=K1_ q_o1 hp34;refine gx C3_ 1 ?_;refine cE e35 (fun h36 e37=>?_) (fun h36 e38=>?_)
  · refine gx C3_ 11 ?_;subst e37;exact qr3
  refine gx C3_ 8 ?_;refine cD e38 (fun p40 e41=>?_) (fun p42 e43=>?_)
  · refine gx C3_ 11 ?_;subst e41;exact qr3
  refine gx C3_ 4 ?_;refine aN [0,1,2,3,4,5] 7 mixd ?_;refine gX C3_ [0,1,2] 4 ?_;refine vq 3 (sslo C3_ (k).toNat rfl rfl rfl rfl (by omega) (by omega)) rfl (by kernel_rfl) rfl fun w44=>?_;refine gX C3_ [4,5,6] 0 ?_;refine vD ?_;refine gx C3_ 3 ?_;subst e43;exact qr3
abbrev R24_:(Int×Int)->PV:=fun r=> .tup [.int .u64 r.1, .int .i64 r.2]
abbrev R25_:(Int×Bs×Int)->PV:=fun r=> .tup [.int .i64 r.1, .str r.2.1, .int .i64 r.2.2]
def tbv121:Tb:=[(3,ty3),(5,ty5),(9,ty9),(22,ty22),(23,ty23),(24,ty24),(26,ty26),(36,ty36),(78,ty78),(87,ty87),(90,ty90),(92,ty92),(94,ty94),(303,ty303)]
theorem L_:tbB Tryz.prog tbv121=true:=by kernel_rfl
theorem O0_ (x:PlaceR) (ahead:List PlaceR):Fn Tryz.prog gb 338 [.agg (PlaceR.pc x), .sl PlaceR.pc ahead] (.int .i64 (G3_ x ahead)):=by
  refine fC Tryz.func338 L_ Tryz.ntmps338 fun w N H hG=>?_;have ahead_l:ahead.length<=140737488355328:=w.2.1.1;have e0:=G3_.eq_1 x ahead;generalize G3_ x ahead=z at e0 ⊢;refine gm L_ 8 [0] fun B2=>?_;refine freeze (i:=0) (t:=2) rfl rfl rfl rfl ?_;refine gx L_ 9 ?_;refine call (Cn_ _) rfl rfl fun w3=>?_;refine gx L_ 11 ?_;refine cN e0 (fun p6 e7=>?_) (fun p9 e10=>?_)
  · refine gx L_ 9 ?_;subst e7;exact qr1
  refine gx L_ 1 ?_;obtain⟨o,e_o,q_o⟩:=Hw_ e10;refine Hr_ (ι:=Bool) [1,4,5] [] (fun v=>[(15, .bool v)]) (fun v=>[]) (fun v=>o=v) ?_ ?_
  · refine gx L_ 4 ?_;refine call (M3_ _) rfl rfl fun w11=>?_;refine gx L_ 4 ?_;refine cE e_o (fun h12 e14=>?_) (fun h12 e16=>?_)
    · have h13:=Cp_ h12;refine gx L_ 1 ?_;refine nX (!(F7_ x.label)) ?_ ⟨rfl,trivial⟩ trivial;exact e14
    have h15:=Co_ h12;refine gx L_ 4 ?_;refine call (Ey_ _ _ _) rfl rfl fun w17=>?_;refine gx L_ 4 ?_;refine cE e16 (fun h18 e20=>?_) (fun h18 e22=>?_)
    · have h19:=Cp_ h18;refine gx L_ 1 ?_;refine nX (!(Bz_ x.bytes 0 65536)) ?_ ⟨rfl,trivial⟩ trivial;exact e20
    have h21:=Co_ h18;refine gx L_ 6 ?_;refine nX (decide (x.base=0)) ?_ ⟨rfl,trivial⟩ trivial;exact e22
  rintro v hp23;have e24:=K1_ q_o hp23;refine gx L_ 1 ?_;refine cE e24 (fun h25 e26=>?_) (fun h25 e27=>?_)
  · refine gx L_ 8 ?_;subst e26;exact qr1
  refine gx L_ 4 ?_;refine call (cF_Place _ _ _ _ (fun z_28:PlaceR=>(Hf_ z_28 x)) (fun z_28=>M9_ z_28 x)) rfl rfl fun w29=>?_;refine gx L_ 3 ?_;refine cD e27 (fun p31 e32=>?_) (fun p33 e34=>?_)
  · refine gx L_ 8 ?_;subst e32;exact qr1
  refine gx L_ 9 ?_;subst e34;exact qr1
theorem Ji_ (p:PolicyR) (x:GrantR) (ahead:List GrantR):Fn Tryz.prog gb 339 [.agg (PolicyR.pc p), .agg (GrantR.pc x), .sl GrantR.pc ahead] (.int .i64 (D1_ p x ahead)):=by
  refine fC Tryz.func339 L_ Tryz.ntmps339 fun w N H hG=>?_;have p_places_l:p.places.length<=140737488355328:=w.1.2.2.1.1;have p_slots_l:p.slots.length<=140737488355328:=w.1.2.2.2.1.1;have p_grants_l:p.grants.length<=140737488355328:=w.1.2.2.2.2.1.1;have ahead_l:ahead.length<=140737488355328:=w.2.2.1.1;have e0:=D1_.eq_1 p x ahead;generalize D1_ p x ahead=z at e0 ⊢;refine gm L_ 9 [0,1] fun B2=>?_;refine freeze (i:=1) (t:=4) rfl rfl rfl rfl ?_;refine gx L_ 12 ?_;refine call (C6_ _ _) rfl rfl fun w4=>?_;refine gx L_ 4 ?_;refine cE e0 (fun h5 e7=>?_) (fun h5 e10=>?_)
  · have h6:=Cp_ h5;refine gx L_ 2 ?_;refine cndT rfl h5 ?_;refine gx L_ 8 ?_;subst e7;exact qr1
  have h8:=Co_ h5;have hb8:=Xj_ h8
  (try obtain⟨hb8a,hb8b⟩:=hb8)
  refine gx L_ 4 ?_;refine call (C6_ _ _) rfl rfl fun w11=>?_;refine gx L_ 4 ?_;refine cE e10 (fun h12 e14=>?_) (fun h12 e17=>?_)
  · have h13:=Cp_ h12;refine gx L_ 8 ?_;subst e14;exact qr1
  have h15:=Co_ h12;have hb15:=Xj_ h15
  (try obtain⟨hb15a,hb15b⟩:=hb15)
  refine gx L_ 1 ?_;refine aN [1,2,3,4,5,6] 16 mixd ?_;refine gX L_ [0,1,2,3] 12 ?_;have hc18:=getG (xs:=p.places) (k:=(x.frm).toNat) (by omega);refine vq 4 (qidx L_ (x.frm).toNat rfl rfl (by omega) hc18 rfl rfl rfl rfl) rfl (by kernel_rfl) rfl fun w19=>?_;refine gX L_ [5,6,7,8,9,10] 5 ?_;have hc20:=getG (xs:=p.places) (k:=(x.to').toNat) (by omega);refine vq 11 (qidx L_ (x.to').toNat rfl rfl (by omega) hc20 rfl rfl rfl rfl) rfl (by kernel_rfl) rfl fun w21=>?_;refine gX L_ [12,13] 2 ?_;refine vC 14 rfl (Ew_ _ _) rfl fun w22=>?_;refine gX L_ [15] 0 ?_;refine vD ?_;refine gx L_ 1 ?_;refine cE e17 (fun h23 e24=>?_) (fun h23 e25=>?_)
  · refine gx L_ 8 ?_;subst e24;exact qr1
  refine gx L_ 4 ?_;refine call (Ey_ _ _ _) rfl rfl fun w26=>?_;refine gx L_ 4 ?_;refine cE e25 (fun h27 e29=>?_) (fun h27 e31=>?_)
  · have h28:=Cp_ h27;refine gx L_ 8 ?_;subst e29;exact qr1
  have h30:=Co_ h27;refine gx L_ 4 ?_;refine call (cF_Grant _ _ _ _ (fun z_32:GrantR=>(He_ z_32 x)) (fun z_32=>M8_ z_32 x)) rfl rfl fun w33=>?_;refine gx L_ 3 ?_;refine cD e31 (fun p35 e36=>?_) (fun p37 e38=>?_)
  · refine gx L_ 8 ?_;subst e36;exact qr1
  refine gx L_ 9 ?_;subst e38;exact qr1
theorem I7_ (p:PolicyR):Fn Tryz.prog gb 302 [.agg (PolicyR.pc p)] (.int .i64 (Cz_ p)):=by
  refine fC Tryz.func302 L_ Tryz.ntmps302 fun w N H hG=>?_;have p_places_l:p.places.length<=140737488355328:=w.1.2.2.1.1;have p_slots_l:p.slots.length<=140737488355328:=w.1.2.2.2.1.1;have p_grants_l:p.grants.length<=140737488355328:=w.1.2.2.2.2.1.1;have e0:=Cz_.eq_1 p;refine gm L_ 11 [0] fun B2=>?_;refine cV e0 R0_ (Hy_ _ _ _) rfl fun r hr3 e5 w4=>?_;refine gx L_ 10 ?_;refine loop (ι:=Nat×Int×Nat) [1,2] [0] (fun ⟨f,e_1,i⟩=>[(3, .int .i64 e_1),(4, .int .i64 (i:Int))]) (fun ⟨f,e_1,i⟩=>[]) (fun ⟨f,e_1,i⟩=>p.places.length+1-i<f/\Cz_ p=Ds_ p f e_1 i/\i<=p.places.length) (fun ⟨f,e_1,i⟩=>f) ⟨(p.places.length+1-0+1),r,0⟩ ⟨rfl,rfl,trivial⟩ trivial ?_ ?_
  · exact⟨Nat.lt_succ_self _,e5,Nat.zero_le _⟩
  rintro⟨f,e_1,i⟩ ⟨hp6_1,hp6_2,hp6_3⟩;obtain⟨f1,rfl⟩:∃ q,f=q+1:=⟨f-1,by omega⟩;have e_f1:=hp6_2.trans (Ds_.eq_2 _ _ _ _);refine gy L_ 14 ?_;refine cE e_f1 (fun h7 e12=>?_) (fun h7 e17=>?_)
  · have h8:=bl h7;have p9:=dt h8;have h10:=br h7;have p11:=dt h10;refine gx L_ 4 ?_;refine aN [1,2,3,4,5,6] 11 mixd ?_;refine gX L_ [0,1,2] 8 ?_;have hc13:=getG (xs:=p.places) (k:=i) (by omega);refine vq 3 (qidx L_ i rfl rfl rfl hc13 rfl rfl rfl rfl) rfl (by kernel_rfl) rfl fun w14=>?_;refine gX L_ [4,5,6,7] 3 ?_;refine vq 8 (lshi L_ i rfl rfl rfl rfl rfl (fun _=>rfl) rfl (by omega)) rfl (by kernel_rfl) rfl fun w15=>?_;refine vC 9 rfl (O0_ _ _) rfl fun w16=>?_;refine gX L_ [10] 0 ?_;refine vD ?_;refine gy L_ 7 ?_;refine next ⟨f1,(G3_ (gt p.places i) (p.places.take i)),(i+1)⟩ rfl rfl ⟨rfl,rfl,trivial⟩ trivial ?_ ?_
    · (try simp only[]);omega
    exact⟨by (try simp only[]);omega,e12,by omega⟩
  refine gx L_ 12 ?_;exact rt1 rfl rfl (S_ (fun r:Int=> .int .i64 r) e17 (ple rfl))
theorem Jj_ (p:PolicyR):Fn Tryz.prog gb 303 [.agg (PolicyR.pc p)] (.int .i64 (C7_ p)):=by
  refine fC Tryz.func303 L_ Tryz.ntmps303 fun w N H hG=>?_;have p_places_l:p.places.length<=140737488355328:=w.1.2.2.1.1;have p_slots_l:p.slots.length<=140737488355328:=w.1.2.2.2.1.1;have p_grants_l:p.grants.length<=140737488355328:=w.1.2.2.2.2.1.1;have e0:=C7_.eq_1 p;refine gm L_ 11 [0] fun B2=>?_;refine cV e0 R0_ (Hy_ _ _ _) rfl fun r hr3 e5 w4=>?_;refine gx L_ 10 ?_;refine loop (ι:=Nat×Int×Nat) [1,2] [0] (fun ⟨f,e_1,i⟩=>[(3, .int .i64 e_1),(4, .int .i64 (i:Int))]) (fun ⟨f,e_1,i⟩=>[]) (fun ⟨f,e_1,i⟩=>p.slots.length+1-i<f/\C7_ p=C5_ p f e_1 i/\i<=p.slots.length) (fun ⟨f,e_1,i⟩=>f) ⟨(p.slots.length+1-0+1),r,0⟩ ⟨rfl,rfl,trivial⟩ trivial ?_ ?_
  · exact⟨Nat.lt_succ_self _,e5,Nat.zero_le _⟩
  rintro⟨f,e_1,i⟩ ⟨hp6_1,hp6_2,hp6_3⟩;obtain⟨f1,rfl⟩:∃ q,f=q+1:=⟨f-1,by omega⟩;have e_f1:=hp6_2.trans (C5_.eq_2 _ _ _ _);refine gy L_ 14 ?_;refine cE e_f1 (fun h7 e12=>?_) (fun h7 e21=>?_)
  · have h8:=bl h7;have p9:=dt h8;have h10:=br h7;have p11:=dt h10;refine gx L_ 5 ?_;refine aN [1,2,3,4,5,6] 8 mixd ?_;refine gX L_ [0,1,2,3] 4 ?_;have hc13:=getG (xs:=p.slots) (k:=i) (by omega);refine vq 4 (qidx L_ i rfl rfl rfl hc13 rfl rfl rfl rfl) rfl (by kernel_rfl) rfl fun w14=>?_;refine gX L_ [5] 2 ?_;refine vC 6 rfl (C6_ _ _) rfl fun w15=>?_;refine gX L_ [7] 0 ?_;refine vD ?_;refine gx L_ 1 ?_;refine cE e12 (fun h16 e18=>?_) (fun h16 e20=>?_)
    · have h17:=Cp_ h16;refine gy L_ 10 ?_;refine next ⟨f1,10,(i+1)⟩ rfl rfl ⟨rfl,rfl,trivial⟩ trivial ?_ ?_
      · (try simp only[]);omega
      exact⟨by (try simp only[]);omega,e18,by omega⟩
    have h19:=Co_ h16;refine gy L_ 8 ?_;refine next ⟨f1,e_1,(i+1)⟩ rfl rfl ⟨rfl,rfl,trivial⟩ trivial ?_ ?_
    · (try simp only[]);omega
    exact⟨by (try simp only[]);omega,e20,by omega⟩
  refine gx L_ 12 ?_;exact rt1 rfl rfl (S_ (fun r:Int=> .int .i64 r) e21 (ple rfl))
theorem I6_ (p:PolicyR):Fn Tryz.prog gb 304 [.agg (PolicyR.pc p)] (.int .i64 (Cy_ p)):=by
  refine fC Tryz.func304 L_ Tryz.ntmps304 fun w N H hG=>?_;have p_places_l:p.places.length<=140737488355328:=w.1.2.2.1.1;have p_slots_l:p.slots.length<=140737488355328:=w.1.2.2.2.1.1;have p_grants_l:p.grants.length<=140737488355328:=w.1.2.2.2.2.1.1;have e0:=Cy_.eq_1 p;refine gm L_ 11 [0] fun B2=>?_;refine cV e0 R0_ (Hy_ _ _ _) rfl fun r hr3 e5 w4=>?_;refine gx L_ 10 ?_;refine loop (ι:=Nat×Int×Nat) [1,2] [0] (fun ⟨f,e_1,i⟩=>[(3, .int .i64 e_1),(4, .int .i64 (i:Int))]) (fun ⟨f,e_1,i⟩=>[]) (fun ⟨f,e_1,i⟩=>p.grants.length+1-i<f/\Cy_ p=Dr_ p f e_1 i/\i<=p.grants.length) (fun ⟨f,e_1,i⟩=>f) ⟨(p.grants.length+1-0+1),r,0⟩ ⟨rfl,rfl,trivial⟩ trivial ?_ ?_
  · exact⟨Nat.lt_succ_self _,e5,Nat.zero_le _⟩
  rintro⟨f,e_1,i⟩ ⟨hp6_1,hp6_2,hp6_3⟩;obtain⟨f1,rfl⟩:∃ q,f=q+1:=⟨f-1,by omega⟩;have e_f1:=hp6_2.trans (Dr_.eq_2 _ _ _ _);refine gy L_ 14 ?_;refine cE e_f1 (fun h7 e12=>?_) (fun h7 e17=>?_)
  · have h8:=bl h7;have p9:=dt h8;have h10:=br h7;have p11:=dt h10;refine gx L_ 4 ?_;refine aN [1,2,3,4,5,6] 12 mixd ?_;refine gX L_ [0,1,2,3] 8 ?_;have hc13:=getG (xs:=p.grants) (k:=i) (by omega);refine vq 4 (qidx L_ i rfl rfl rfl hc13 rfl rfl rfl rfl) rfl (by kernel_rfl) rfl fun w14=>?_;refine gX L_ [5,6,7,8] 3 ?_;refine vq 9 (lshi L_ i rfl rfl rfl rfl rfl (fun _=>rfl) rfl (by omega)) rfl (by kernel_rfl) rfl fun w15=>?_;refine vC 10 rfl (Ji_ _ _ _) rfl fun w16=>?_;refine gX L_ [11] 0 ?_;refine vD ?_;refine gy L_ 7 ?_;refine next ⟨f1,(D1_ p (gt p.grants i) (p.grants.take i)),(i+1)⟩ rfl rfl ⟨rfl,rfl,trivial⟩ trivial ?_ ?_
    · (try simp only[]);omega
    exact⟨by (try simp only[]);omega,e12,by omega⟩
  refine gx L_ 12 ?_;exact rt1 rfl rfl (S_ (fun r:Int=> .int .i64 r) e17 (ple rfl))
theorem Jh_ (p:PolicyR):Fn Tryz.prog gb 249 [.agg (PolicyR.pc p)] (.int .i64 (Et_ p)):=by
  refine fC Tryz.func249 L_ Tryz.ntmps249 fun w N H hG=>?_;have p_places_l:p.places.length<=140737488355328:=w.1.2.2.1.1;have p_slots_l:p.slots.length<=140737488355328:=w.1.2.2.2.1.1;have p_grants_l:p.grants.length<=140737488355328:=w.1.2.2.2.2.1.1;have e0:=Et_.eq_1 p;generalize Et_ p=z at e0 ⊢;refine gm L_ 11 [0] fun B2=>?_;refine call (Ey_ _ _ _) rfl rfl fun w3=>?_;refine gy L_ 4 ?_;refine callg rfl (fun hc=>(Ey_ _ _ _)) rfl ⟨(fun hc=>hc),trivial⟩ rfl rfl fun _=>?_;refine gy L_ 4 ?_;refine cE e0 (fun h4 e5=>?_) (fun h4 e10=>?_)
  · refine gx L_ 7 ?_;subst e5;exact qr1
  have h6:=orl h4;have h7:=Co_ h6;have h8:=orr h4;have h9:=Co_ h8;refine gx L_ 4 ?_;refine aN [1,2,3,4,5,6] 9 mixd ?_;refine gX L_ [0] 8 ?_;refine vC 1 rfl (I7_ _) rfl fun w11=>?_;refine gX L_ [2] 6 ?_;refine vC 3 rfl (Jj_ _) rfl fun w12=>?_;refine gX L_ [4] 4 ?_;refine vC 5 rfl (I6_ _) rfl fun w13=>?_;refine vE 6 rfl (bsl 1 i64c [(Cz_ p),(C7_ p),(Cy_ p)] L_ rfl rfl rfl rfl rfl (fun _=>rfl) rfl (by decide) (by decide) rfl fun u14=>?_);refine vE 7 rfl (calll 1 rfl (Yx_ _) rfl rfl rfl fun w15=>?_);refine gX L_ [8] 0 ?_;refine vD ?_;refine gx L_ 7 ?_;refine cN e10 (fun p18 e19=>?_) (fun p21 e22=>?_)
  · refine gx L_ 8 ?_;subst e19;exact qr1
  refine gx L_ 12 ?_;refine loop (ι:=Nat) [1,28] [0,1] (fun k=>[(29, .int .i64 (k:Int))]) (fun k=>[]) (fun k=>k<=p.places.length/\z=Bx_ p (p.places.drop k) k) (fun k=>p.places.length-k) 0 ⟨rfl,trivial⟩ trivial ?_ ?_
  · exact⟨Nat.zero_le _,e22⟩
  rintro k ⟨hp23_1,hp23_2⟩;refine gx L_ 6 ?_;refine cn rfl (fun p25=>?_) fun p33=>?_
  · have e26:=Cc_ (f:=fun zz=>Bx_ p zz k) hp23_2 (Fj_ (by omega)) (Bx_.eq_2 _ _ _ _);refine gx L_ 15 ?_;refine call (Nw_ _ _) rfl rfl fun w27=>?_;refine gx L_ 3 ?_;refine cE e26 (fun h28 e30=>?_) (fun h28 e32=>?_)
    · have h29:=Cp_ h28;refine gx L_ 11 ?_;subst e30;exact qr1
    have h31:=Co_ h28;refine gy L_ 7 ?_;refine next (k+1) rfl rfl ⟨rfl,trivial⟩ trivial ?_ ?_
    · (try simp only[]);omega
    exact⟨by (try simp only[]);omega,e32⟩
  have e34:=Cc_ (f:=fun zz=>Bx_ p zz k) hp23_2 (Fk_ (by omega)) (Bx_.eq_1 _ _);refine gx L_ 11 ?_;subst e34;exact qr1
theorem Jf_ (s:Bs) (most:Int) (hl:s.length<=19:=by omega):Fn Tryz.prog gb 336 [.str s, .int .u64 most] (.tup [.int .u64 ((Ff_ s most).1), .int .i64 ((Ff_ s most).2)]):=by
  refine fC Tryz.func336 L_ Tryz.ntmps336 fun w N H hG=>?_;have s_l:s.length<=9223372036854775807:=w.1;have most_r:0<=most/\most<=18446744073709551615:=w.2.1;have e0:=Ff_.eq_1 s most;generalize Ff_ s most=z at e0 ⊢;have :=u8r (s.getD 0 0);refine gy L_ 17 ?_;refine q1g [16] rfl (fun hc=>sidx L_ 0 rfl rfl rfl rfl rfl (by first|omega|(simp only[gOf,bl2] at *;omega))) ⟨(fun hc=>hc),trivial⟩ rfl rfl rfl fun _=>?_;refine gy L_ 5 ?_;refine cE e0 (fun h1 e2=>?_) (fun h1 e6=>?_)
  · refine gx L_ 8 ?_;subst e2;exact qr2
  have h3:=orl h1;have p4:=df h3;have h5:=orr h1;refine gx L_ 11 ?_;refine loop (ι:=Nat) [0,1,22] [] (fun k=>[(23, .int .i64 (k:Int))]) (fun k=>[]) (fun k=>k<=s.length/\z=Dg_ s most (s.drop k)/\E6_ (s.take k)=true) (fun k=>s.length-k) 0 ⟨rfl,trivial⟩ trivial ?_ ?_
  · exact⟨Nat.zero_le _,e6,rfl⟩
  rintro k ⟨hp7_1,hp7_2,hp7_3⟩;refine gx L_ 6 ?_;refine cnd rfl (fun h8=>?_) (fun h8=>?_)
  · have p9:=dt h8;have e10:=Cc_ (f:=fun zz=>Dg_ s most zz) hp7_2 (Fj_ (by omega)) (Dg_.eq_2 _ _ _ _);have :=u8r (s.getD k 0);refine gx L_ 14 ?_;refine q1 (sidx L_ k rfl rfl rfl rfl rfl (by omega)) rfl fun w11=>?_;have :=u8r (s.getD k 0);refine gx L_ 4 ?_;refine q1g [31,32] rfl (fun hc=>sidx L_ k rfl rfl rfl rfl rfl (by first|omega|(simp only[gOf,bl2] at *;omega))) ⟨(fun hc=>hc),(fun hc=>hc),trivial⟩ rfl rfl rfl fun _=>?_;refine gy L_ 4 ?_;refine cE e10 (fun h12 e13=>?_) (fun h12 e18=>?_)
    · refine gx L_ 12 ?_;subst e13;exact qr2
    have h14:=orl h12;have p15:=df h14;have h16:=orr h12;have p17:=df h16;refine gy L_ 7 ?_;refine next (k+1) rfl rfl ⟨rfl,trivial⟩ trivial ?_ ?_
    · (try simp only[]);omega
    exact⟨by (try simp only[]);omega,e18,dig_step (by assumption) (by omega) (by assumption)⟩
  have p19:=df h8;have e20:=Cc_ (f:=fun zz=>Dg_ s most zz) hp7_2 (Fk_ (by omega)) (Dg_.eq_1 _ _);refine gx L_ 8 ?_;refine call (strconv_PU _ _ _ (by rfl) (by rfl) (by omega) (by exact List.length_pos_iff.2 (by assumption)) (by exact dig_all (by assumption) (by omega))) rfl rfl fun w21=>?_;refine gx L_ 11 ?_;refine q1 (qnilN rfl Tryz.underlying422) rfl fun w22=>?_;refine gx L_ 1 ?_;refine ungd rfl rfl ?_;refine gx L_ 1 ?_;refine ungd rfl rfl ?_;refine gx L_ 1 ?_;refine ungd rfl rfl ?_;refine gx L_ 4 ?_;refine cD e20 (fun p24 e25=>?_) (fun p26 e27=>?_)
  · refine gx L_ 8 ?_;subst e25;exact qr2
  refine gx L_ 10 ?_;subst e27;exact qr2
theorem De_ (s:Bs) (hl:s.length<=19:=by omega):Fn Tryz.prog gb 297 [.str s] (.tup [.int .i64 ((Dd_ s).1), .int .i64 ((Dd_ s).2)]):=by
  refine fC Tryz.func297 L_ Tryz.ntmps297 fun w N H hG=>?_;have s_l:s.length<=9223372036854775807:=w.1;have e0:=Dd_.eq_1 s;refine gx L_ 9 ?_;refine cV e0 R24_ (Jf_ _ _) rfl fun r hr1 e3 w2=>?_;refine gx L_ 17 ?_;exact rt2 rfl rfl (S_ (fun r:Int×Int=> .tup [.int .i64 r.1, .int .i64 r.2]) e3 (ple rfl))
theorem C4_ (p:PolicyR) (s:Bs):Fn Tryz.prog gb 298 [.agg (PolicyR.pc p), .str s] (.tup [.int .i64 ((Aa_ p s).1), .int .i64 ((Aa_ p s).2)]):=by
  refine fC Tryz.func298 L_ Tryz.ntmps298 fun w N H hG=>?_;have p_places_l:p.places.length<=140737488355328:=w.1.2.2.1.1;have p_slots_l:p.slots.length<=140737488355328:=w.1.2.2.2.1.1;have p_grants_l:p.grants.length<=140737488355328:=w.1.2.2.2.2.1.1;have s_l:s.length<=9223372036854775807:=w.2.1;have e0:=Aa_.eq_1 p s;generalize Aa_ p s=z at e0 ⊢;refine gm L_ 12 [0] fun B2=>?_;refine cV e0 R0_ (Ef_ _ _) rfl fun r hr3 e5 w4=>?_;have hA5:=Wd_ p s
  (try rw[<- hr3] at hA5)
  refine gx L_ 9 ?_;refine cD e5 (fun p8 e9=>?_) (fun p10 e11=>?_)
  · refine gx L_ 9 ?_;subst e9;exact qr2
  refine gx L_ 9 ?_;subst e11;exact qr2
theorem Fw_ (s:Bs):Fn Tryz.prog gb 306 [.str s] (.tup [.agg (LabelR.pc ((Ed_ s).1)), .int .i64 ((Ed_ s).2)]):=by
  refine fC Tryz.func306 L_ Tryz.ntmps306 fun w N H hG=>?_;have s_l:s.length<=9223372036854775807:=w.1;have e0:=Ed_.eq_1 s;generalize Ed_ s=z at e0 ⊢;refine gm L_ 9 [0] fun B2=>?_;refine cV e0 R25_ (Io_ _ _) rfl fun r hr3 e5 w4=>?_;have hA5:=lnum_r s 15 (by omega)
  (try rw[<- hr3] at hA5)
  refine gx L_ 16 ?_;refine cN e5 (fun p9 e10=>?_) (fun p13 e14=>?_)
  · refine gm L_ 10 [] fun _=>?_;subst e10;exact qr2
  refine gm L_ 18 [1] fun B16=>?_;refine loop (ι:=Nat×Bs×Int×LabelR) [2,6] [0] (fun ⟨f,s1,last,x⟩=>[(0, .str s1),(7, .int .i64 last)]) (fun ⟨f,s1,last,x⟩=>[(1, .box (B16 0) 92 (LabelR.pc x))]) (fun ⟨f,s1,last,x⟩=>s1.length<f/\z=Fv_ f s1 last x/\True) (fun ⟨f,s1,last,x⟩=>f) ⟨(r.2.1.length+1),r.2.1,(-1),(⟨(IntKind.wrap .u8 r.1),0⟩:LabelR)⟩ ⟨rfl,rfl,trivial⟩ ⟨rfl,trivial⟩ ?_ ?_
  · exact⟨Nat.lt_succ_self _,e14,trivial⟩
  rintro⟨f,s1,last,x⟩ ⟨hp17_1,hp17_2,hp17_3⟩;obtain⟨f1,rfl⟩:∃ q,f=q+1:=⟨f-1,by omega⟩;have e_f1:=hp17_2.trans (Fv_.eq_2 _ _ _ _);refine gx L_ 8 ?_;refine cD e_f1 (fun p19 e20=>?_) (fun p49 e50=>?_)
  · have :=u8r (s1.getD 0 0);refine gx L_ 7 ?_;refine q1 (sidx L_ 0 rfl rfl rfl rfl rfl (by omega)) rfl fun w21=>?_;refine gx L_ 3 ?_;refine cN e20 (fun p24 e25=>?_) (fun p28 e29=>?_)
    · refine gm L_ 13 [] fun _=>?_;subst e25;exact qr2
    refine gx L_ 5 ?_;refine q1 (sslo L_ 1 rfl rfl rfl rfl rfl (by omega)) rfl fun w30=>?_;refine cV e29 R25_ (Io_ _ _) rfl fun r1 hr31 e33 w32=>?_;have hA33:=lnum_r (s1.drop 1) 31 (by omega)
    (try rw[<- hr31] at hA33)
    refine gx L_ 18 ?_;refine cN e33 (fun p37 e38=>?_) (fun p41 e42=>?_)
    · refine gm L_ 15 [] fun _=>?_;subst e38;exact qr2
    refine gx L_ 8 ?_;refine cD e42 (fun p44 e45=>?_) (fun p47 e48=>?_)
    · refine gm L_ 14 [] fun _=>?_;subst e45;exact qr2
    refine gx L_ 4 ?_;refine aN [2,3,4,5,6,7] 7 mixd ?_;have :=wr_u32 ((BitVec.ofInt (IntKind.bits .u32) x.set_ |||BitVec.ofInt (IntKind.bits .u32) (IntKind.wrap .u32 (1*2 ^ (min (r1.1:Int).toNat (IntKind.bits .u32))))).toNat)
    refine gXy L_ [0,1,2,3,4,5] 1 ?_;refine vT 6 rfl (sO L_ ?_);refine vD ?_;refine gx L_ 8 ?_;refine next ⟨f1,r1.2.1,r1.1,(⟨x.level,(IntKind.wrap .u32 ((BitVec.ofInt (IntKind.bits .u32) x.set_ |||BitVec.ofInt (IntKind.bits .u32) (IntKind.wrap .u32 (1*2 ^ (min (r1.1:Int).toNat (IntKind.bits .u32))))).toNat))⟩:LabelR)⟩ rfl rfl ⟨rfl,rfl,trivial⟩ ⟨rfl,trivial⟩ ?_ ?_
    · (try simp only[]);omega
    exact⟨(by simp only[List.length_drop] at *;omega),e48,trivial⟩
  refine gm L_ 13 [] fun _=>?_;subst e50;exact qr2
abbrev R26_:(List Bs)->PV:=fun r=> .sl strc r
abbrev R27_:(Int×Int)->PV:=fun r=> .tup [.int .i64 r.1, .int .i64 r.2]
abbrev R28_:(LabelR×Int)->PV:=fun r=> .tup [.agg (LabelR.pc r.1), .int .i64 r.2]
theorem cb248:Z_ Tryz.prog 248:=W_ Tryz.func248 (by kernel_rfl) (by kernel_rfl)
theorem cb299:Z_ Tryz.prog 299:=W_ Tryz.func299 (by kernel_rfl) (by kernel_rfl)
theorem cb300:Z_ Tryz.prog 300:=W_ Tryz.func300 (by kernel_rfl) (by kernel_rfl)
abbrev ty26v122:TI:=⟨.agg [(0,1),(1,1),(2,1),(3,1),(4,1)],5,88,[.int .i64 0, .int .i64 0, .val (.slice none 0 0), .val (.slice none 0 0), .val (.slice none 0 0)]⟩
def tbv122:Tb:=[(3,ty3),(9,ty9),(22,ty22),(23,ty23),(24,ty24),(26,ty26v122),(87,ty87),(92,ty92),(94,ty94),(244,Sd_)]
theorem F_:tbB Tryz.prog tbv122=true:=by kernel_rfl
theorem Oz_ (s:Bs) (hs:plen s=true:=by first|assumption|decide +kernel):Fn Tryz.prog gb 179 [.str s] (.tup [.agg (PolicyR.pc ((F3_ s).1)), .int .i64 ((F3_ s).2.1), .int .i64 ((F3_ s).2.2)]):=by
  refine fC Tryz.func179 F_ Tryz.ntmps179 fun w N H hG=>?_;have s_l:s.length<=9223372036854775807:=w.1;have hpl:=plen_ok hs;have hpl1:=hpl.1;have hcl:=Uv_ 10 s;have e0:=F3_.eq_1 s;generalize F3_ s=z at e0 ⊢;refine gm F_ 16 [0,1] fun B2=>?_;refine call (strings_SplitL _ _ (by rfl) (by omega)) rfl rfl fun w4=>?_;refine gx F_ 5 ?_;refine Pp_ (i:=1) (o:=2) (k:=5) (e:=94) 2 PlaceR.pc rfl (by decide) rfl rfl ?_;refine Pp_ (i:=1) (o:=3) (k:=1) (e:=3) 3 i64c rfl (by decide) rfl rfl ?_;refine Pp_ (i:=1) (o:=4) (k:=3) (e:=87) 4 GrantR.pc rfl (by decide) rfl rfl ?_;refine loop (ι:=Nat×Int×Int×(List PlaceR)×(List Int)×(List GrantR)×Value×Value×Value) [2,5,12,13] [0] (fun ⟨k,work,give_,places,slots,grants,u_places,u_slots,u_grants⟩=>[(14, .int .i64 (k:Int))]) (fun ⟨k,work,give_,places,slots,grants,u_places,u_slots,u_grants⟩=>[(1, .box (B2 1) 26 [.int .i64 work, .int .i64 give_, .osl 2, .osl 3, .osl 4]),(2, .arr u_places 5 94 PlaceR.pc places),(3, .arr u_slots 1 3 i64c slots),(4, .arr u_grants 3 87 GrantR.pc grants)]) (fun ⟨k,work,give_,places,slots,grants,u_places,u_slots,u_grants⟩=>k<=(cuts 10 s).length/\z=Ag_ ((cuts 10 s).drop k) k work give_ places slots grants/\places.length<=k/\slots.length<=k/\grants.length<=k) (fun ⟨k,work,give_,places,slots,grants,u_places,u_slots,u_grants⟩=>(cuts 10 s).length-k) ⟨0,0,0,[],[],[],(.slice none 0 0),(.slice none 0 0),(.slice none 0 0)⟩ ⟨rfl,trivial⟩ ⟨rfl,rfl,rfl,rfl,trivial⟩ ?_ ?_
  · exact⟨Nat.zero_le _,e0,⟨by simp,by simp,by simp⟩⟩
  rintro⟨k,work,give_,places,slots,grants,u_places,u_slots,u_grants⟩ ⟨hp5_1,hp5_2,hp5_3⟩;refine gx F_ 6 ?_;refine cnd rfl (fun h6=>?_) (fun h6=>?_)
  · have p7:=dt h6;have e8:=Cc_ (f:=fun zz=>Ag_ zz k work give_ places slots grants) hp5_2 (Fj_ (by omega)) (Ag_.eq_2 _ _ _ _ _ _ _ _);have hc9:=getG (xs:=cuts 10 s) (k:=k) (by omega);have hz_hc9:=hpl.2 (gt (cuts 10 s) k) (List.mem_of_getElem? hc9);have hy_hc9:=hz_hc9.2.1;refine gx F_ 7 ?_;refine q1 (qidx F_ k rfl rfl rfl hc9 rfl rfl rfl rfl) rfl fun w10=>?_;refine gx F_ 8 ?_;refine cV e8 R26_ (O1_ _ (hn:=by assumption)) rfl fun r hr11 e13 w12=>?_;have hpw:=plen_w hs (show G4_ (gt (cuts 10 s) k)=r from by first|assumption|exact Eq.symm (by assumption)) (by assumption);have hpw0:0<r.length->0<(gt r 0).length/\(gt r 0).length<=19:=fun q=>hpw _ (Je_ q);refine gx F_ 11 ?_;refine q1g [25] rfl (fun hc=>qidx F_ 0 rfl rfl rfl (getG (by first|omega|(simp only[gOf,bl2] at *;omega))) rfl rfl rfl rfl) ⟨(fun hc=>hc),trivial⟩ rfl rfl rfl fun _=>?_;have :=u8r ((gt r 0).getD 0 0);refine gy F_ 1 ?_;refine q1g [27] rfl (fun hc=>sidx F_ 0 rfl rfl rfl rfl rfl (by first|omega|(simp only[gOf,bl2] at *;omega))) ⟨(fun hc=>hc),trivial⟩ rfl rfl rfl fun _=>?_;refine gy F_ 4 ?_;refine cE e13 (fun h14 e15=>?_) (fun h14 e20=>?_)
    · refine gy F_ 8 ?_;refine next ⟨(k+1),work,give_,places,slots,grants,(u_places),(u_slots),(u_grants)⟩ rfl rfl ⟨rfl,trivial⟩ ⟨rfl,rfl,rfl,rfl,trivial⟩ ?_ ?_
      · (try simp only[]);omega
      exact⟨by (try simp only[]);omega,e15,⟨(by (try simp only[List.length_append,List.length_cons,List.length_nil]);omega),(by (try simp only[List.length_append,List.length_cons,List.length_nil]);omega),(by (try simp only[List.length_append,List.length_cons,List.length_nil]);omega)⟩⟩
    have h16:=orl h14;have p17:=df h16;have h18:=orr h14;have p19:=df h18;refine gx F_ 5 ?_;refine hinl [] F_ Tryz.func248 rfl Tryz.ntmps248 cb248 rfl rfl rfl rfl fun Hc21 hHc21=>?_;have hc22:=getG (xs:=r) (k:=0) (by omega);have hz_hc22:=hpw (gt r 0) (List.mem_of_getElem? hc22);refine gx F_ 14 ?_;refine q1 (qidx F_ 0 rfl rfl rfl hc22 rfl rfl rfl rfl) rfl fun w23=>?_;refine gx F_ 10 ?_;refine cE e20 (fun h24 e26=>?_) (fun h24 e141=>?_)
    · have p25:=dt h24;refine gx F_ 14 ?_;refine cN e26 (fun p29 e30=>?_) (fun p33 e34=>?_)
      · refine gx F_ 7 ?_;refine inlr rfl rfl rfl trivial ?_;refine gx F_ 9 ?_;refine cndT rfl (by decide) ?_;refine gmy F_ 17 [] fun _=>?_;subst e30;exact rt3 rfl rfl (Dq_ (A_ (D8_ (A_ (ple rfl) (A_ (ple rfl) (A_ M_ (A_ M_ (A_ M_ V_)))))) (A_ (ple rfl) (A_ (ple rfl) V_))))
      refine gx F_ 11 ?_;refine q1 (qidx F_ 0 rfl rfl rfl hc22 rfl rfl rfl rfl) rfl fun w35=>?_;refine gx F_ 10 ?_;refine cD e34 (fun p37 e38=>?_) (fun p53 e54=>?_)
      · have hc39:=getG (xs:=r) (k:=1) (by omega);have hz_hc39:=hpw (gt r 1) (List.mem_of_getElem? hc39);refine gx F_ 3 ?_;refine q1 (qidx F_ 1 rfl rfl rfl hc39 rfl rfl rfl rfl) rfl fun w40=>?_;refine gx F_ 1 ?_;refine cV e38 R27_ (De_ _) rfl fun r1 hr41 e43 w42=>?_;refine gm F_ 17 [] fun _=>?_;refine inlr rfl rfl rfl trivial ?_;refine gx F_ 9 ?_;refine cN e43 (fun p47 e48=>?_) (fun p51 e52=>?_)
        · refine gmy F_ 17 [] fun _=>?_;subst e48;exact rt3 rfl rfl (Dq_ (A_ (D8_ (A_ (ple rfl) (A_ (ple rfl) (A_ M_ (A_ M_ (A_ M_ V_)))))) (A_ (ple rfl) (A_ (ple rfl) V_))))
        refine gy F_ 7 ?_;refine next ⟨(k+1),r1.1,give_,places,slots,grants,(u_places),(u_slots),(u_grants)⟩ rfl rfl ⟨rfl,trivial⟩ ⟨rfl,rfl,rfl,rfl,trivial⟩ ?_ ?_
        · (try simp only[]);omega
        exact⟨by (try simp only[]);omega,e52,⟨(by (try simp only[List.length_append,List.length_cons,List.length_nil]);omega),(by (try simp only[List.length_append,List.length_cons,List.length_nil]);omega),(by (try simp only[List.length_append,List.length_cons,List.length_nil]);omega)⟩⟩
      refine gx F_ 6 ?_;refine cD e54 (fun p56 e57=>?_) (fun p72 e73=>?_)
      · have hc58:=getG (xs:=r) (k:=1) (by omega);have hz_hc58:=hpw (gt r 1) (List.mem_of_getElem? hc58);refine gx F_ 3 ?_;refine q1 (qidx F_ 1 rfl rfl rfl hc58 rfl rfl rfl rfl) rfl fun w59=>?_;refine gx F_ 1 ?_;refine cV e57 R27_ (De_ _) rfl fun r2 hr60 e62 w61=>?_;refine gm F_ 17 [] fun _=>?_;refine inlr rfl rfl rfl trivial ?_;refine gx F_ 9 ?_;refine cN e62 (fun p66 e67=>?_) (fun p70 e71=>?_)
        · refine gmy F_ 17 [] fun _=>?_;subst e67;exact rt3 rfl rfl (Dq_ (A_ (D8_ (A_ (ple rfl) (A_ (ple rfl) (A_ M_ (A_ M_ (A_ M_ V_)))))) (A_ (ple rfl) (A_ (ple rfl) V_))))
        refine gy F_ 7 ?_;refine next ⟨(k+1),work,r2.1,places,slots,grants,(u_places),(u_slots),(u_grants)⟩ rfl rfl ⟨rfl,trivial⟩ ⟨rfl,rfl,rfl,rfl,trivial⟩ ?_ ?_
        · (try simp only[]);omega
        exact⟨by (try simp only[]);omega,e71,⟨(by (try simp only[List.length_append,List.length_cons,List.length_nil]);omega),(by (try simp only[List.length_append,List.length_cons,List.length_nil]);omega),(by (try simp only[List.length_append,List.length_cons,List.length_nil]);omega)⟩⟩
      refine gx F_ 6 ?_;refine cD e73 (fun p75 e76=>?_) (fun p92 e93=>?_)
      · refine gx F_ 6 ?_;refine aN [5,6,7,8,9,10] 12 mixd ?_;refine gX F_ [0,1,2,3] 8 ?_;have hc77:=getG (xs:=r) (k:=1) (by omega);have hz_hc77:=hpw (gt r 1) (List.mem_of_getElem? hc77);refine vq 4 (qidx F_ 1 rfl rfl rfl hc77 rfl rfl rfl rfl) rfl (by kernel_rfl) rfl fun w78=>?_;refine gX F_ [5] 6 ?_;refine vE 6 rfl (Sr_ (C4_ (⟨work,give_,places,slots,grants⟩:PolicyR) _) rfl rfl (.agg (.same _ (.same _ (.lend 2 rfl (.lend 3 rfl (.lend 4 rfl .nil))))) (.same _ .nil)) rfl ?_);generalize hr80:Aa_ (⟨work,give_,places,slots,grants⟩:PolicyR) (gt r 1)=r3;intro w79;have e81:=e76.trans (Ge_ hr80.symm);refine gX F_ [7,8,9,10,11] 0 ?_;refine vD ?_;refine gx F_ 8 ?_;refine ef (bsl 5 i64c [r3.1] F_ rfl rfl rfl rfl rfl (fun _=>rfl) rfl (by decide) (by decide) rfl fun u82=>?_);refine ef (app F_ [r3.1] rfl rfl rfl rfl rfl rfl rfl rfl rfl (src_o rfl rfl) (by first|omega|(simp;omega)) rfl fun u83=>?_);refine gx F_ 2 ?_;refine ef (Ja_ F_ rfl rfl rfl rfl rfl rfl rfl rfl rfl ?_);refine gx F_ 10 ?_;refine inlr rfl rfl rfl trivial ?_;refine gx F_ 9 ?_;refine cN e81 (fun p86 e87=>?_) (fun p90 e91=>?_)
        · refine gmy F_ 17 [] fun _=>?_;subst e87;exact rt3 rfl rfl (Dq_ (A_ (D8_ (A_ (ple rfl) (A_ (ple rfl) (A_ M_ (A_ M_ (A_ M_ V_)))))) (A_ (ple rfl) (A_ (ple rfl) V_))))
        refine gy F_ 7 ?_;refine next ⟨(k+1),work,give_,places,(slots++[r3.1]),grants,(u_places),(u83),(u_grants)⟩ rfl rfl ⟨rfl,trivial⟩ ⟨rfl,rfl,rfl,rfl,trivial⟩ ?_ ?_
        · (try simp only[]);omega
        exact⟨by (try simp only[]);omega,e91,⟨(by (try simp only[List.length_append,List.length_cons,List.length_nil]);omega),(by (try simp only[List.length_append,List.length_cons,List.length_nil]);omega),(by (try simp only[List.length_append,List.length_cons,List.length_nil]);omega)⟩⟩
      refine gx F_ 6 ?_;refine cndT rfl h24 ?_;refine gx F_ 4 ?_;refine hinl [] F_ Tryz.func299 rfl Tryz.ntmps299 cb299 rfl rfl rfl rfl fun Hc94 hHc94=>?_;have hc95:=getG (xs:=r) (k:=2) (by omega);have hz_hc95:=hpw (gt r 2) (List.mem_of_getElem? hc95);refine gx F_ 8 ?_;refine q1 (qidx F_ 2 rfl rfl rfl hc95 rfl rfl rfl rfl) rfl fun w96=>?_;refine gx F_ 1 ?_;refine cV e93 R28_ (Fw_ _) rfl fun r4 hr97 e99 w98=>?_;refine gm F_ 15 [5] fun B101=>?_;refine cE e99 (fun h102 e105=>?_) (fun h102 e109=>?_)
      · have h103:=Cp_ h102;have p104:=df h103;refine gx F_ 8 ?_;refine inlr rfl rfl rfl trivial ?_;refine gx F_ 6 ?_;refine inlr rfl rfl rfl trivial ?_;refine gx F_ 9 ?_;refine cndT rfl h102 ?_;refine gmy F_ 17 [] fun _=>?_;subst e105;exact rt3 rfl rfl (Dq_ (A_ (D8_ (A_ (ple rfl) (A_ (ple rfl) (A_ M_ (A_ M_ (A_ M_ V_)))))) (A_ (ple rfl) (A_ (ple rfl) V_))))
      have h107:=Co_ h102;have p108:=dt h107;have hc110:=getG (xs:=r) (k:=3) (by omega);have hz_hc110:=hpw (gt r 3) (List.mem_of_getElem? hc110);refine gx F_ 5 ?_;refine q1 (qidx F_ 3 rfl rfl rfl hc110 rfl rfl rfl rfl) rfl fun w111=>?_;refine gx F_ 1 ?_;refine cV e109 R27_ (De_ _) rfl fun r5 hr112 e114 w113=>?_;refine gx F_ 14 ?_;refine cE e114 (fun h115 e118=>?_) (fun h115 e122=>?_)
      · have h116:=Cp_ h115;have p117:=df h116;refine gx F_ 8 ?_;refine inlr rfl rfl rfl trivial ?_;refine gx F_ 6 ?_;refine inlr rfl rfl rfl trivial ?_;refine gx F_ 9 ?_;refine cndT rfl h115 ?_;refine gmy F_ 17 [] fun _=>?_;subst e118;exact rt3 rfl rfl (Dq_ (A_ (D8_ (A_ (ple rfl) (A_ (ple rfl) (A_ M_ (A_ M_ (A_ M_ V_)))))) (A_ (ple rfl) (A_ (ple rfl) V_))))
      have h120:=Co_ h115;have p121:=dt h120;have hc123:=getG (xs:=r) (k:=4) (by omega);have hz_hc123:=hpw (gt r 4) (List.mem_of_getElem? hc123);refine gx F_ 5 ?_;refine q1 (qidx F_ 4 rfl rfl rfl hc123 rfl rfl rfl rfl) rfl fun w124=>?_;refine gx F_ 1 ?_;refine cV e122 R24_ (Jf_ _ _) rfl fun r6 hr125 e127 w126=>?_;refine gx F_ 8 ?_;refine aN [2,6,7,8,9,10,11] 17 mixd ?_;refine gX F_ [0,1,2,3,4,5] 11 ?_;have hc128:=getG (xs:=r) (k:=1) (by omega);have hz_hc128:=hpw (gt r 1) (List.mem_of_getElem? hc128);refine vq 6 (qidx F_ 1 rfl rfl rfl hc128 rfl rfl rfl rfl) rfl (by kernel_rfl) rfl fun w129=>?_;refine gX F_ [7,8,9,10,11] 5 ?_;refine vE 12 rfl (bsl 6 PlaceR.pc [(⟨(gt r 1),r4.1,r5.1,r6.1⟩:PlaceR)] F_ rfl rfl rfl rfl rfl (fun _=>rfl) rfl (by decide) (by decide) rfl fun u130=>?_);refine vE 13 rfl (app F_ [(⟨(gt r 1),r4.1,r5.1,r6.1⟩:PlaceR)] rfl rfl rfl rfl rfl rfl rfl rfl rfl (src_o rfl rfl) (by first|omega|(simp;omega)) rfl fun u131=>?_);refine gX F_ [14,15] 1 ?_;refine vtp 16 rfl (by kernel_rfl) (by kernel_rfl) (Ja_ F_ rfl rfl rfl rfl rfl rfl rfl rfl rfl ?_);refine vD ?_;refine gx F_ 8 ?_;refine inlr rfl rfl rfl trivial ?_;refine gx F_ 6 ?_;refine inlr rfl rfl rfl trivial ?_;refine gx F_ 9 ?_;refine cN e127 (fun p134 e135=>?_) (fun p138 e139=>?_)
      · refine gmy F_ 17 [] fun _=>?_;subst e135;exact rt3 rfl rfl (Dq_ (A_ (D8_ (A_ (ple rfl) (A_ (ple rfl) (A_ M_ (A_ M_ (A_ M_ V_)))))) (A_ (ple rfl) (A_ (ple rfl) V_))))
      refine gy F_ 7 ?_;refine next ⟨(k+1),work,give_,(places++[(⟨(gt r 1),r4.1,r5.1,r6.1⟩:PlaceR)]),slots,grants,(u131),(u_slots),(u_grants)⟩ rfl rfl ⟨rfl,trivial⟩ ⟨rfl,rfl,rfl,rfl,trivial⟩ ?_ ?_
      · (try simp only[]);omega
      exact⟨by (try simp only[]);omega,e139,⟨(by (try simp only[List.length_append,List.length_cons,List.length_nil]);omega),(by (try simp only[List.length_append,List.length_cons,List.length_nil]);omega),(by (try simp only[List.length_append,List.length_cons,List.length_nil]);omega)⟩⟩
    have p140:=df h24;refine gx F_ 6 ?_;refine cD e141 (fun p143 e144=>?_) (fun p254 e255=>?_)
    · refine gx F_ 14 ?_;refine cN e144 (fun p147 e148=>?_) (fun p151 e152=>?_)
      · refine gx F_ 7 ?_;refine inlr rfl rfl rfl trivial ?_;refine gx F_ 9 ?_;refine cndT rfl (by decide) ?_;refine gmy F_ 17 [] fun _=>?_;subst e148;exact rt3 rfl rfl (Dq_ (A_ (D8_ (A_ (ple rfl) (A_ (ple rfl) (A_ M_ (A_ M_ (A_ M_ V_)))))) (A_ (ple rfl) (A_ (ple rfl) V_))))
      refine gx F_ 11 ?_;refine q1 (qidx F_ 0 rfl rfl rfl hc22 rfl rfl rfl rfl) rfl fun w153=>?_;refine gx F_ 10 ?_;refine cD e152 (fun p155 e156=>?_) (fun p171 e172=>?_)
      · have hc157:=getG (xs:=r) (k:=1) (by omega);have hz_hc157:=hpw (gt r 1) (List.mem_of_getElem? hc157);refine gx F_ 3 ?_;refine q1 (qidx F_ 1 rfl rfl rfl hc157 rfl rfl rfl rfl) rfl fun w158=>?_;refine gx F_ 1 ?_;refine cV e156 R27_ (De_ _) rfl fun r7 hr159 e161 w160=>?_;refine gm F_ 17 [] fun _=>?_;refine inlr rfl rfl rfl trivial ?_;refine gx F_ 9 ?_;refine cN e161 (fun p165 e166=>?_) (fun p169 e170=>?_)
        · refine gmy F_ 17 [] fun _=>?_;subst e166;exact rt3 rfl rfl (Dq_ (A_ (D8_ (A_ (ple rfl) (A_ (ple rfl) (A_ M_ (A_ M_ (A_ M_ V_)))))) (A_ (ple rfl) (A_ (ple rfl) V_))))
        refine gy F_ 7 ?_;refine next ⟨(k+1),r7.1,give_,places,slots,grants,(u_places),(u_slots),(u_grants)⟩ rfl rfl ⟨rfl,trivial⟩ ⟨rfl,rfl,rfl,rfl,trivial⟩ ?_ ?_
        · (try simp only[]);omega
        exact⟨by (try simp only[]);omega,e170,⟨(by (try simp only[List.length_append,List.length_cons,List.length_nil]);omega),(by (try simp only[List.length_append,List.length_cons,List.length_nil]);omega),(by (try simp only[List.length_append,List.length_cons,List.length_nil]);omega)⟩⟩
      refine gx F_ 6 ?_;refine cD e172 (fun p174 e175=>?_) (fun p190 e191=>?_)
      · have hc176:=getG (xs:=r) (k:=1) (by omega);have hz_hc176:=hpw (gt r 1) (List.mem_of_getElem? hc176);refine gx F_ 3 ?_;refine q1 (qidx F_ 1 rfl rfl rfl hc176 rfl rfl rfl rfl) rfl fun w177=>?_;refine gx F_ 1 ?_;refine cV e175 R27_ (De_ _) rfl fun r8 hr178 e180 w179=>?_;refine gm F_ 17 [] fun _=>?_;refine inlr rfl rfl rfl trivial ?_;refine gx F_ 9 ?_;refine cN e180 (fun p184 e185=>?_) (fun p188 e189=>?_)
        · refine gmy F_ 17 [] fun _=>?_;subst e185;exact rt3 rfl rfl (Dq_ (A_ (D8_ (A_ (ple rfl) (A_ (ple rfl) (A_ M_ (A_ M_ (A_ M_ V_)))))) (A_ (ple rfl) (A_ (ple rfl) V_))))
        refine gy F_ 7 ?_;refine next ⟨(k+1),work,r8.1,places,slots,grants,(u_places),(u_slots),(u_grants)⟩ rfl rfl ⟨rfl,trivial⟩ ⟨rfl,rfl,rfl,rfl,trivial⟩ ?_ ?_
        · (try simp only[]);omega
        exact⟨by (try simp only[]);omega,e189,⟨(by (try simp only[List.length_append,List.length_cons,List.length_nil]);omega),(by (try simp only[List.length_append,List.length_cons,List.length_nil]);omega),(by (try simp only[List.length_append,List.length_cons,List.length_nil]);omega)⟩⟩
      refine gx F_ 6 ?_;refine cD e191 (fun p193 e194=>?_) (fun p210 e211=>?_)
      · refine gx F_ 6 ?_;refine aN [5,6,7,8,9,10] 12 mixd ?_;refine gX F_ [0,1,2,3] 8 ?_;have hc195:=getG (xs:=r) (k:=1) (by omega);have hz_hc195:=hpw (gt r 1) (List.mem_of_getElem? hc195);refine vq 4 (qidx F_ 1 rfl rfl rfl hc195 rfl rfl rfl rfl) rfl (by kernel_rfl) rfl fun w196=>?_;refine gX F_ [5] 6 ?_;refine vE 6 rfl (Sr_ (C4_ (⟨work,give_,places,slots,grants⟩:PolicyR) _) rfl rfl (.agg (.same _ (.same _ (.lend 2 rfl (.lend 3 rfl (.lend 4 rfl .nil))))) (.same _ .nil)) rfl ?_);generalize hr198:Aa_ (⟨work,give_,places,slots,grants⟩:PolicyR) (gt r 1)=r9;intro w197;have e199:=e194.trans (Ge_ hr198.symm);refine gX F_ [7,8,9,10,11] 0 ?_;refine vD ?_;refine gx F_ 8 ?_;refine ef (bsl 5 i64c [r9.1] F_ rfl rfl rfl rfl rfl (fun _=>rfl) rfl (by decide) (by decide) rfl fun u200=>?_);refine ef (app F_ [r9.1] rfl rfl rfl rfl rfl rfl rfl rfl rfl (src_o rfl rfl) (by first|omega|(simp;omega)) rfl fun u201=>?_);refine gx F_ 2 ?_;refine ef (Ja_ F_ rfl rfl rfl rfl rfl rfl rfl rfl rfl ?_);refine gx F_ 10 ?_;refine inlr rfl rfl rfl trivial ?_;refine gx F_ 9 ?_;refine cN e199 (fun p204 e205=>?_) (fun p208 e209=>?_)
        · refine gmy F_ 17 [] fun _=>?_;subst e205;exact rt3 rfl rfl (Dq_ (A_ (D8_ (A_ (ple rfl) (A_ (ple rfl) (A_ M_ (A_ M_ (A_ M_ V_)))))) (A_ (ple rfl) (A_ (ple rfl) V_))))
        refine gy F_ 7 ?_;refine next ⟨(k+1),work,give_,places,(slots++[r9.1]),grants,(u_places),(u201),(u_grants)⟩ rfl rfl ⟨rfl,trivial⟩ ⟨rfl,rfl,rfl,rfl,trivial⟩ ?_ ?_
        · (try simp only[]);omega
        exact⟨by (try simp only[]);omega,e209,⟨(by (try simp only[List.length_append,List.length_cons,List.length_nil]);omega),(by (try simp only[List.length_append,List.length_cons,List.length_nil]);omega),(by (try simp only[List.length_append,List.length_cons,List.length_nil]);omega)⟩⟩
      refine gx F_ 6 ?_;refine cndF rfl h24 ?_;refine gx F_ 4 ?_;refine hinl [] F_ Tryz.func300 rfl Tryz.ntmps300 cb300 rfl rfl rfl rfl fun Hc212 hHc212=>?_;refine gx F_ 6 ?_;refine aN [5,6,7,8,9,10] 12 mixd ?_;refine gX F_ [0,1,2,3] 8 ?_;have hc213:=getG (xs:=r) (k:=1) (by omega);have hz_hc213:=hpw (gt r 1) (List.mem_of_getElem? hc213);refine vq 4 (qidx F_ 1 rfl rfl rfl hc213 rfl rfl rfl rfl) rfl (by kernel_rfl) rfl fun w214=>?_;refine gX F_ [5] 6 ?_;refine vE 6 rfl (Sr_ (C4_ (⟨work,give_,places,slots,grants⟩:PolicyR) _) rfl rfl (.agg (.same _ (.same _ (.lend 2 rfl (.lend 3 rfl (.lend 4 rfl .nil))))) (.same _ .nil)) rfl ?_);generalize hr216:Aa_ (⟨work,give_,places,slots,grants⟩:PolicyR) (gt r 1)=r10;intro w215;have e217:=e211.trans (Ge_ hr216.symm);refine gX F_ [7,8,9,10,11] 0 ?_;refine vD ?_;refine gx F_ 8 ?_;refine cE e217 (fun h218 e221=>?_) (fun h218 e225=>?_)
      · have h219:=Cp_ h218;have p220:=df h219;refine gx F_ 8 ?_;refine inlr rfl rfl rfl trivial ?_;refine gx F_ 6 ?_;refine inlr rfl rfl rfl trivial ?_;refine gx F_ 9 ?_;refine cndT rfl h218 ?_;refine gmy F_ 17 [] fun _=>?_;subst e221;exact rt3 rfl rfl (Dq_ (A_ (D8_ (A_ (ple rfl) (A_ (ple rfl) (A_ M_ (A_ M_ (A_ M_ V_)))))) (A_ (ple rfl) (A_ (ple rfl) V_))))
      have h223:=Co_ h218;have p224:=dt h223;refine gx F_ 3 ?_;refine aN [5,6,7,8,9,10] 12 mixd ?_;refine gX F_ [0,1,2,3] 8 ?_;have hc226:=getG (xs:=r) (k:=2) (by omega);have hz_hc226:=hpw (gt r 2) (List.mem_of_getElem? hc226);refine vq 4 (qidx F_ 2 rfl rfl rfl hc226 rfl rfl rfl rfl) rfl (by kernel_rfl) rfl fun w227=>?_;refine gX F_ [5] 6 ?_;refine vE 6 rfl (Sr_ (C4_ (⟨work,give_,places,slots,grants⟩:PolicyR) _) rfl rfl (.agg (.same _ (.same _ (.lend 2 rfl (.lend 3 rfl (.lend 4 rfl .nil))))) (.same _ .nil)) rfl ?_);generalize hr229:Aa_ (⟨work,give_,places,slots,grants⟩:PolicyR) (gt r 2)=r11;intro w228;have e230:=e225.trans (Ge_ hr229.symm);refine gX F_ [7,8,9,10,11] 0 ?_;refine vD ?_;refine gx F_ 8 ?_;refine cE e230 (fun h231 e234=>?_) (fun h231 e238=>?_)
      · have h232:=Cp_ h231;have p233:=df h232;refine gx F_ 8 ?_;refine inlr rfl rfl rfl trivial ?_;refine gx F_ 6 ?_;refine inlr rfl rfl rfl trivial ?_;refine gx F_ 9 ?_;refine cndT rfl h231 ?_;refine gmy F_ 17 [] fun _=>?_;subst e234;exact rt3 rfl rfl (Dq_ (A_ (D8_ (A_ (ple rfl) (A_ (ple rfl) (A_ M_ (A_ M_ (A_ M_ V_)))))) (A_ (ple rfl) (A_ (ple rfl) V_))))
      have h236:=Co_ h231;have p237:=dt h236;have hc239:=getG (xs:=r) (k:=3) (by omega);have hz_hc239:=hpw (gt r 3) (List.mem_of_getElem? hc239);refine gx F_ 5 ?_;refine q1 (qidx F_ 3 rfl rfl rfl hc239 rfl rfl rfl rfl) rfl fun w240=>?_;refine gx F_ 1 ?_;refine cV e238 R27_ (De_ _) rfl fun r12 hr241 e243 w242=>?_;refine gx F_ 18 ?_;refine ef (bsl 5 GrantR.pc [(⟨r10.1,r11.1,r12.1⟩:GrantR)] F_ rfl rfl rfl rfl rfl (fun _=>rfl) rfl (by decide) (by decide) rfl fun u244=>?_);refine ef (app F_ [(⟨r10.1,r11.1,r12.1⟩:GrantR)] rfl rfl rfl rfl rfl rfl rfl rfl rfl (src_o rfl rfl) (by first|omega|(simp;omega)) rfl fun u245=>?_);refine gx F_ 2 ?_;refine ef (Ja_ F_ rfl rfl rfl rfl rfl rfl rfl rfl rfl ?_);refine gx F_ 9 ?_;refine inlr rfl rfl rfl trivial ?_;refine gx F_ 6 ?_;refine inlr rfl rfl rfl trivial ?_;refine gx F_ 9 ?_;refine cN e243 (fun p248 e249=>?_) (fun p252 e253=>?_)
      · refine gmy F_ 17 [] fun _=>?_;subst e249;exact rt3 rfl rfl (Dq_ (A_ (D8_ (A_ (ple rfl) (A_ (ple rfl) (A_ M_ (A_ M_ (A_ M_ V_)))))) (A_ (ple rfl) (A_ (ple rfl) V_))))
      refine gy F_ 7 ?_;refine next ⟨(k+1),work,give_,places,slots,(grants++[(⟨r10.1,r11.1,r12.1⟩:GrantR)]),(u_places),(u_slots),(u245)⟩ rfl rfl ⟨rfl,trivial⟩ ⟨rfl,rfl,rfl,rfl,trivial⟩ ?_ ?_
      · (try simp only[]);omega
      exact⟨by (try simp only[]);omega,e253,⟨(by (try simp only[List.length_append,List.length_cons,List.length_nil]);omega),(by (try simp only[List.length_append,List.length_cons,List.length_nil]);omega),(by (try simp only[List.length_append,List.length_cons,List.length_nil]);omega)⟩⟩
    refine gx F_ 7 ?_;refine cE e255 (fun h256 e258=>?_) (fun h256 e283=>?_)
    · have p257:=dt h256;refine gx F_ 2 ?_;refine cndT rfl h256 ?_;refine gx F_ 12 ?_;refine cN e258 (fun p261 e262=>?_) (fun p265 e266=>?_)
      · refine gx F_ 7 ?_;refine inlr rfl rfl rfl trivial ?_;refine gx F_ 9 ?_;refine cndT rfl (by decide) ?_;refine gmy F_ 17 [] fun _=>?_;subst e262;exact rt3 rfl rfl (Dq_ (A_ (D8_ (A_ (ple rfl) (A_ (ple rfl) (A_ M_ (A_ M_ (A_ M_ V_)))))) (A_ (ple rfl) (A_ (ple rfl) V_))))
      refine gx F_ 11 ?_;refine q1 (qidx F_ 0 rfl rfl rfl hc22 rfl rfl rfl rfl) rfl fun w267=>?_;refine gx F_ 10 ?_;refine cndT rfl h256 ?_;have hc268:=getG (xs:=r) (k:=1) (by omega);have hz_hc268:=hpw (gt r 1) (List.mem_of_getElem? hc268);refine gx F_ 3 ?_;refine q1 (qidx F_ 1 rfl rfl rfl hc268 rfl rfl rfl rfl) rfl fun w269=>?_;refine gx F_ 1 ?_;refine cV e266 R27_ (De_ _) rfl fun r13 hr270 e272 w271=>?_;refine gm F_ 17 [] fun _=>?_;refine inlr rfl rfl rfl trivial ?_;refine gx F_ 9 ?_;refine cN e272 (fun p276 e277=>?_) (fun p280 e281=>?_)
      · refine gmy F_ 17 [] fun _=>?_;subst e277;exact rt3 rfl rfl (Dq_ (A_ (D8_ (A_ (ple rfl) (A_ (ple rfl) (A_ M_ (A_ M_ (A_ M_ V_)))))) (A_ (ple rfl) (A_ (ple rfl) V_))))
      refine gy F_ 7 ?_;refine next ⟨(k+1),r13.1,give_,places,slots,grants,(u_places),(u_slots),(u_grants)⟩ rfl rfl ⟨rfl,trivial⟩ ⟨rfl,rfl,rfl,rfl,trivial⟩ ?_ ?_
      · (try simp only[]);omega
      exact⟨by (try simp only[]);omega,e281,⟨(by (try simp only[List.length_append,List.length_cons,List.length_nil]);omega),(by (try simp only[List.length_append,List.length_cons,List.length_nil]);omega),(by (try simp only[List.length_append,List.length_cons,List.length_nil]);omega)⟩⟩
    have p282:=df h256;refine gx F_ 6 ?_;refine cE e283 (fun h284 e286=>?_) (fun h284 e311=>?_)
    · have p285:=dt h284;refine gx F_ 2 ?_;refine cndT rfl h284 ?_;refine gx F_ 12 ?_;refine cN e286 (fun p289 e290=>?_) (fun p293 e294=>?_)
      · refine gx F_ 7 ?_;refine inlr rfl rfl rfl trivial ?_;refine gx F_ 9 ?_;refine cndT rfl (by decide) ?_;refine gmy F_ 17 [] fun _=>?_;subst e290;exact rt3 rfl rfl (Dq_ (A_ (D8_ (A_ (ple rfl) (A_ (ple rfl) (A_ M_ (A_ M_ (A_ M_ V_)))))) (A_ (ple rfl) (A_ (ple rfl) V_))))
      refine gx F_ 11 ?_;refine q1 (qidx F_ 0 rfl rfl rfl hc22 rfl rfl rfl rfl) rfl fun w295=>?_;refine gx F_ 10 ?_;refine cndF rfl h256 ?_;refine gx F_ 6 ?_;refine cndT rfl h284 ?_;have hc296:=getG (xs:=r) (k:=1) (by omega);have hz_hc296:=hpw (gt r 1) (List.mem_of_getElem? hc296);refine gx F_ 3 ?_;refine q1 (qidx F_ 1 rfl rfl rfl hc296 rfl rfl rfl rfl) rfl fun w297=>?_;refine gx F_ 1 ?_;refine cV e294 R27_ (De_ _) rfl fun r14 hr298 e300 w299=>?_;refine gm F_ 17 [] fun _=>?_;refine inlr rfl rfl rfl trivial ?_;refine gx F_ 9 ?_;refine cN e300 (fun p304 e305=>?_) (fun p308 e309=>?_)
      · refine gmy F_ 17 [] fun _=>?_;subst e305;exact rt3 rfl rfl (Dq_ (A_ (D8_ (A_ (ple rfl) (A_ (ple rfl) (A_ M_ (A_ M_ (A_ M_ V_)))))) (A_ (ple rfl) (A_ (ple rfl) V_))))
      refine gy F_ 7 ?_;refine next ⟨(k+1),work,r14.1,places,slots,grants,(u_places),(u_slots),(u_grants)⟩ rfl rfl ⟨rfl,trivial⟩ ⟨rfl,rfl,rfl,rfl,trivial⟩ ?_ ?_
      · (try simp only[]);omega
      exact⟨by (try simp only[]);omega,e309,⟨(by (try simp only[List.length_append,List.length_cons,List.length_nil]);omega),(by (try simp only[List.length_append,List.length_cons,List.length_nil]);omega),(by (try simp only[List.length_append,List.length_cons,List.length_nil]);omega)⟩⟩
    have p310:=df h284;refine gx F_ 5 ?_;refine cE e311 (fun h312 e314=>?_) (fun h312 e340=>?_)
    · have p313:=dt h312;refine gx F_ 12 ?_;refine cN e314 (fun p317 e318=>?_) (fun p321 e322=>?_)
      · refine gx F_ 7 ?_;refine inlr rfl rfl rfl trivial ?_;refine gx F_ 9 ?_;refine cndT rfl (by decide) ?_;refine gmy F_ 17 [] fun _=>?_;subst e318;exact rt3 rfl rfl (Dq_ (A_ (D8_ (A_ (ple rfl) (A_ (ple rfl) (A_ M_ (A_ M_ (A_ M_ V_)))))) (A_ (ple rfl) (A_ (ple rfl) V_))))
      refine gx F_ 11 ?_;refine q1 (qidx F_ 0 rfl rfl rfl hc22 rfl rfl rfl rfl) rfl fun w323=>?_;refine gx F_ 10 ?_;refine cndF rfl h256 ?_;refine gx F_ 6 ?_;refine cndF rfl h284 ?_;refine gx F_ 6 ?_;refine cndT rfl h312 ?_;refine gx F_ 6 ?_;refine aN [5,6,7,8,9,10] 12 mixd ?_;refine gX F_ [0,1,2,3] 8 ?_;have hc324:=getG (xs:=r) (k:=1) (by omega);have hz_hc324:=hpw (gt r 1) (List.mem_of_getElem? hc324);refine vq 4 (qidx F_ 1 rfl rfl rfl hc324 rfl rfl rfl rfl) rfl (by kernel_rfl) rfl fun w325=>?_;refine gX F_ [5] 6 ?_;refine vE 6 rfl (Sr_ (C4_ (⟨work,give_,places,slots,grants⟩:PolicyR) _) rfl rfl (.agg (.same _ (.same _ (.lend 2 rfl (.lend 3 rfl (.lend 4 rfl .nil))))) (.same _ .nil)) rfl ?_);generalize hr327:Aa_ (⟨work,give_,places,slots,grants⟩:PolicyR) (gt r 1)=r15;intro w326;have e328:=e322.trans (Ge_ hr327.symm);refine gX F_ [7,8,9,10,11] 0 ?_;refine vD ?_;refine gx F_ 8 ?_;refine ef (bsl 5 i64c [r15.1] F_ rfl rfl rfl rfl rfl (fun _=>rfl) rfl (by decide) (by decide) rfl fun u329=>?_);refine ef (app F_ [r15.1] rfl rfl rfl rfl rfl rfl rfl rfl rfl (src_o rfl rfl) (by first|omega|(simp;omega)) rfl fun u330=>?_);refine gx F_ 2 ?_;refine ef (Ja_ F_ rfl rfl rfl rfl rfl rfl rfl rfl rfl ?_);refine gx F_ 10 ?_;refine inlr rfl rfl rfl trivial ?_;refine gx F_ 9 ?_;refine cN e328 (fun p333 e334=>?_) (fun p337 e338=>?_)
      · refine gmy F_ 17 [] fun _=>?_;subst e334;exact rt3 rfl rfl (Dq_ (A_ (D8_ (A_ (ple rfl) (A_ (ple rfl) (A_ M_ (A_ M_ (A_ M_ V_)))))) (A_ (ple rfl) (A_ (ple rfl) V_))))
      refine gy F_ 7 ?_;refine next ⟨(k+1),work,give_,places,(slots++[r15.1]),grants,(u_places),(u330),(u_grants)⟩ rfl rfl ⟨rfl,trivial⟩ ⟨rfl,rfl,rfl,rfl,trivial⟩ ?_ ?_
      · (try simp only[]);omega
      exact⟨by (try simp only[]);omega,e338,⟨(by (try simp only[List.length_append,List.length_cons,List.length_nil]);omega),(by (try simp only[List.length_append,List.length_cons,List.length_nil]);omega),(by (try simp only[List.length_append,List.length_cons,List.length_nil]);omega)⟩⟩
    have p339:=df h312;refine gx F_ 8 ?_;refine inlr rfl rfl rfl trivial ?_;refine gx F_ 9 ?_;refine cndT rfl (by decide) ?_;refine gmy F_ 17 [] fun _=>?_;subst e340;exact rt3 rfl rfl (Dq_ (A_ (D8_ (A_ (ple rfl) (A_ (ple rfl) (A_ M_ (A_ M_ (A_ M_ V_)))))) (A_ (ple rfl) (A_ (ple rfl) V_))))
  have p342:=df h6;have e343:=Cc_ (f:=fun zz=>Ag_ zz k work give_ places slots grants) hp5_2 (Fk_ (by omega)) (Ag_.eq_1 _ _ _ _ _ _);refine gx F_ 8 ?_;refine give 2 rfl ?_;refine give 3 rfl ?_;refine give 4 rfl ?_;refine gx F_ 1 ?_;refine cV e343 R0_ (Jh_ (⟨work,give_,places,slots,grants⟩:PolicyR)) rfl fun r16 hr344 e346 w345=>?_;refine gx F_ 9 ?_;refine cN e346 (fun p349 e350=>?_) (fun p353 e354=>?_)
  · refine gm F_ 11 [] fun _=>?_;subst e350;exact rt3 rfl rfl (Dq_ (A_ (D8_ (A_ (ple rfl) (A_ (ple rfl) (A_ M_ (A_ M_ (A_ M_ V_)))))) (A_ (ple rfl) (A_ (ple rfl) V_))))
  refine gm F_ 11 [] fun _=>?_;subst e354;exact qr3
abbrev R29_:(PolicyR×Int×Int)->PV:=fun r=> .tup [.agg (PolicyR.pc r.1), .int .i64 r.2.1, .int .i64 r.2.2]
abbrev R30_:(NoteR×Bool)->PV:=fun r=> .tup [.agg (NoteR.pc r.1), .bool r.2]
abbrev R31_:(RiseR×Int)->PV:=fun r=> .tup [.agg (RiseR.pc r.1), .int .i64 r.2]
abbrev R32_:(Int×Mail×Bool)->PV:=fun r=> .tup [.int .u64 r.1, .agg (Mail.pc r.2.1), .bool r.2.2]
def tbv125:Tb:=[(3,ty3),(5,ty5),(22,ty22),(26,ty26),(36,ty36),(40,ty40),(43,ty43),(46,ty46),(60,ty60),(65,ty65),(75,ty75),(92,ty92),(94,ty94),(102,Vw_),(160,Yh_)]
theorem Bq_:tbB Tryz.prog tbv125=true:=by kernel_rfl
theorem Ta_:Fn Tryz.prog gb 250 [] (.bool (N8_)):=by
  refine fC Tryz.func250 Bq_ Tryz.ntmps250 fun w N H hG=>?_;have e0:=N8_.eq_1;refine gx Bq_ 7 ?_;refine cV e0 R28_ (Fw_ _) rfl fun r hr1 e3 w2=>?_;refine gm Bq_ 10 [0] fun B5=>?_;refine cV e3 R28_ (Fw_ _) rfl fun r1 hr6 e8 w7=>?_;refine gm Bq_ 10 [1] fun B10=>?_;refine cV e8 R28_ (Fw_ _) rfl fun r2 hr11 e13 w12=>?_;refine gm Bq_ 10 [2] fun B15=>?_;refine call N6_ rfl rfl fun w16=>?_;refine gx Bq_ 1 ?_;refine ungd rfl rfl ?_;refine gx Bq_ 1 ?_;refine ungd rfl rfl ?_;refine gy Bq_ 13 ?_;refine callg rfl (fun hc=>(Ew_ _ _)) rfl ⟨(fun hc=>hc),(fun hc=>hc),trivial⟩ rfl rfl fun _=>?_;refine gy Bq_ 4 ?_;refine callg rfl (fun hc=>(Ew_ _ _)) rfl ⟨(fun hc=>hc),(fun hc=>hc),trivial⟩ rfl rfl fun _=>?_;refine gy Bq_ 5 ?_;refine callg rfl (fun hc=>(Ew_ _ _)) rfl ⟨(fun hc=>hc),(fun hc=>hc),trivial⟩ rfl rfl fun _=>?_;refine gy Bq_ 6 ?_;exact rt1 rfl rfl (S_ (fun r:Bool=> .bool r) e13 (ple rfl))
theorem S9_:Fn Tryz.prog gb 180 [] (.bool (N7_)):=by
  refine fC Tryz.func180 Bq_ Tryz.ntmps180 fun w N H hG=>?_;have e0:=N7_.eq_1;refine gx Bq_ 7 ?_;refine call Ta_ rfl rfl fun w1=>?_;refine gx Bq_ 4 ?_;exact rt1 rfl rfl (S_ (fun r:Bool=> .bool r) e0 (ple rfl))
theorem Td_:Fn Tryz.prog gb 101 [] (.bool (Ob_)):=by
  refine fC Tryz.func101 Bq_ Tryz.ntmps101 fun w N H hG=>?_;have e0:=Ob_.eq_1;refine gx Bq_ 7 ?_;refine cV e0 R29_ (Oz_ _ (hs:=by exact plen05)) rfl fun r hr1 e3 w2=>?_;refine gm Bq_ 12 [0] fun B5=>?_;refine call S9_ rfl rfl fun w6=>?_;refine gx Bq_ 1 ?_;refine callg rfl (fun hc=>Jn_) rfl trivial rfl rfl fun _=>?_;refine gy Bq_ 23 ?_;refine q1g [34] rfl (fun hc=>qidx Bq_ 0 rfl rfl rfl (getG (by first|omega|(simp only[gOf,bl2] at *;omega))) rfl rfl rfl rfl) ⟨(fun hc=>hc),trivial⟩ rfl rfl rfl fun _=>?_;refine gy Bq_ 8 ?_;exact rt1 rfl rfl (S_ (fun r:Bool=> .bool r) e3 (ple rfl))
theorem Tb_:Fn Tryz.prog gb 41 [] (.bool (N9_)):=by
  refine fC Tryz.func41 Bq_ Tryz.ntmps41 fun w N H hG=>?_;have e0:=N9_.eq_1;refine gx Bq_ 7 ?_;refine call Td_ rfl rfl fun w1=>?_;refine gx Bq_ 4 ?_;exact rt1 rfl rfl (S_ (fun r:Bool=> .bool r) e0 (ple rfl))
theorem Th_:Fn Tryz.prog gb 254 [] (.bool (Oe_)):=by
  refine fC Tryz.func254 Bq_ Tryz.ntmps254 fun w N H hG=>?_;have e0:=Oe_.eq_1;refine gx Bq_ 9 ?_;refine cV e0 R2_ (G9_ (⟨[]⟩:LineR) (⟨3,[97],[],[],[],0,0⟩:Mail) (hh:=by first|omega|decide)) rfl fun r hr1 e3 w2=>?_;have hA3:=Ri_ (l:=(⟨[]⟩:LineR)) (m:=(⟨3,[97],[],[],[],0,0⟩:Mail)) (by first|assumption|exact Ly_) (by decide)
  (try rw[<- hr1] at hA3)
  refine gm Bq_ 12 [0] fun B6=>?_;refine cV e3 R2_ (G9_ _ (⟨5,[97],[],[],[],0,0⟩:Mail) (hh:=by first|omega|decide)) rfl fun r1 hr7 e9 w8=>?_;have hA9:=Ri_ (l:=r.1) (m:=(⟨5,[97],[],[],[],0,0⟩:Mail)) (by first|assumption|exact Ly_) (by decide)
  (try rw[<- hr7] at hA9)
  refine gm Bq_ 10 [] fun _=>?_;refine cV e9 R7_ (Gn_ _) rfl fun r2 hr12 e14 w13=>?_
  (try have hA14:=Nf_ (l:=r1.1) (by assumption);(try rw[<- hr12] at hA14);obtain⟨hA14_0,hA14_1⟩:=hA14)
  refine gm Bq_ 13 [1] fun B17=>?_;refine cV e14 R7_ (Gn_ _) rfl fun r3 hr18 e20 w19=>?_
  (try have hA20:=Nf_ (l:=r2.1) (by assumption);(try rw[<- hr18] at hA20);obtain⟨hA20_0,hA20_1⟩:=hA20)
  refine gm Bq_ 13 [2] fun B23=>?_;refine cV e20 R2_ (Ip_ _ _) rfl fun r4 hr24 e26 w25=>?_;have hA26:=Rj_ (l:=r3.1) (id:=3) (by assumption)
  (try rw[<- hr24] at hA26)
  refine gm Bq_ 10 [] fun _=>?_;refine cV e26 R4_ (H9_ _) rfl fun r5 hr29 e31 w30=>?_;refine gm Bq_ 10 [3] fun B33=>?_;refine call Oc_ rfl rfl fun w34=>?_;refine gx Bq_ 1 ?_;refine ungd rfl rfl ?_;refine gx Bq_ 1 ?_;refine ungd rfl rfl ?_;refine gy Bq_ 40 ?_;exact rt1 rfl rfl (S_ (fun r:Bool=> .bool r) e31 (ple rfl))
theorem Tg_:Fn Tryz.prog gb 183 [] (.bool (Od_)):=by
  refine fC Tryz.func183 Bq_ Tryz.ntmps183 fun w N H hG=>?_;have e0:=Od_.eq_1;refine gx Bq_ 7 ?_;refine call Th_ rfl rfl fun w1=>?_;refine gx Bq_ 4 ?_;exact rt1 rfl rfl (S_ (fun r:Bool=> .bool r) e0 (ple rfl))
theorem Tj_:Fn Tryz.prog gb 104 [] (.bool (Lp_)):=by
  refine fC Tryz.func104 Bq_ Tryz.ntmps104 fun w N H hG=>?_;have e0:=Lp_.eq_1;refine gm Bq_ 17 [0] fun B2=>?_;refine loop (ι:=Nat×Nat×Dk_) [0,1] [] (fun ⟨f,v,x⟩=>[(7, .int .i64 (v:Int))]) (fun ⟨f,v,x⟩=>[(0, .box (B2 0) 46 (Dk_.pc x))]) (fun ⟨f,v,x⟩=>40-v<f/\Lp_=H6_ f v x/\x.kept.length<=32) (fun ⟨f,v,x⟩=>f) ⟨(40-0+1),0,(⟨0,[]⟩:Dk_)⟩ ⟨rfl,trivial⟩ ⟨rfl,trivial⟩ ?_ ?_
  · exact⟨Nat.lt_succ_self _,e0,by decide⟩
  rintro⟨f,v,x⟩ ⟨hp3_1,hp3_2,hp3_3⟩;obtain⟨f1,rfl⟩:∃ q,f=q+1:=⟨f-1,by omega⟩;have e_f1:=hp3_2.trans (H6_.eq_2 _ _ _);refine gx Bq_ 6 ?_;refine cD e_f1 (fun p5 e6=>?_) (fun p12 e13=>?_)
  · refine gx Bq_ 15 ?_;refine cV e6 R9_ (Gb_ _ (⟨0,(IntKind.wrap .u8 (v:Int)),[]⟩:NoteR)) rfl fun r hr7 e9 w8=>?_;have hA9:=Rr_ (n:=x) (x:=(⟨0,(IntKind.wrap .u8 (v:Int)),[]⟩:NoteR)) (by assumption)
    (try rw[<- hr7] at hA9)
    refine gmy Bq_ 11 [] fun _=>?_;refine next ⟨f1,(v+1),r.1⟩ rfl rfl ⟨rfl,trivial⟩ ⟨rfl,trivial⟩ ?_ ?_
    · (try simp only[]);omega
    exact⟨by (try simp only[]);omega,e9,by assumption⟩
  refine gx Bq_ 8 ?_;refine cV e13 R30_ (Ib_ _ _) rfl fun r1 hr14 e16 w15=>?_;refine gm Bq_ 11 [1] fun B18=>?_;refine cV e16 R30_ (Ib_ _ _) rfl fun r2 hr19 e21 w20=>?_;refine gm Bq_ 10 [2] fun B23=>?_;refine call N6_ rfl rfl fun w24=>?_;refine gx Bq_ 1 ?_;refine ungd rfl rfl ?_;refine gy Bq_ 13 ?_;refine callg rfl (fun hc=>(Km_ _)) rfl ⟨(fun hc=>hc),trivial⟩ rfl rfl fun _=>?_;refine gy Bq_ 6 ?_;exact rt1 rfl rfl (S_ (fun r:Bool=> .bool r) e21 (ple rfl))
theorem Ti_:Fn Tryz.prog gb 44 [] (.bool (Of_)):=by
  refine fC Tryz.func44 Bq_ Tryz.ntmps44 fun w N H hG=>?_;have e0:=Of_.eq_1;refine gx Bq_ 7 ?_;refine call Tj_ rfl rfl fun w1=>?_;refine gx Bq_ 4 ?_;exact rt1 rfl rfl (S_ (fun r:Bool=> .bool r) e0 (ple rfl))
theorem Tl_:Fn Tryz.prog gb 255 [] (.bool (Lq_)):=by
  refine fC Tryz.func255 Bq_ Tryz.ntmps255 fun w N H hG=>?_;have e0:=Lq_.eq_1;refine gm Bq_ 17 [0] fun B2=>?_;refine loop (ι:=Nat×Nat×RiseR) [0,1] [] (fun ⟨f,v,x⟩=>[(8, .int .i64 (v:Int))]) (fun ⟨f,v,x⟩=>[(0, .box (B2 0) 40 (RiseR.pc x))]) (fun ⟨f,v,x⟩=>20-v<f/\Lq_=H7_ f v x/\RiOk x/\(x.total=0\/0<x.kept.length)) (fun ⟨f,v,x⟩=>f) ⟨(20-0+1),0,(⟨0,[]⟩:RiseR)⟩ ⟨rfl,trivial⟩ ⟨rfl,trivial⟩ ?_ ?_
  · exact⟨Nat.lt_succ_self _,e0,⟨W9_, .inl rfl⟩⟩
  rintro⟨f,v,x⟩ ⟨hp3_1,hp3_2,hp3_3⟩;obtain⟨hi1,hi2⟩:=hp3_3;obtain⟨f1,rfl⟩:∃ q,f=q+1:=⟨f-1,by omega⟩;have e_f1:=hp3_2.trans (H7_.eq_2 _ _ _);refine gx Bq_ 6 ?_;refine cD e_f1 (fun p5 e6=>?_) (fun p13 e14=>?_)
  · refine gx Bq_ 7 ?_;refine cV e6 R31_ (Fy_ _ (⟨0,[97],[],[],[],0,0⟩:Mail) (hh:=by first|omega|decide)) rfl fun r hr7 e9 w8=>?_;have hA9:=Vo_ (x:=x) (m:=(⟨0,[97],[],[],[],0,0⟩:Mail)) (by assumption)
    (try rw[<- hr7] at hA9)
    have hA10:=rput_ne (x:=x) (m:=(⟨0,[97],[],[],[],0,0⟩:Mail)) (by assumption)
    (try rw[<- hr7] at hA10)
    refine gmy Bq_ 11 [] fun _=>?_;refine next ⟨f1,(v+1),r.1⟩ rfl rfl ⟨rfl,trivial⟩ ⟨rfl,trivial⟩ ?_ ?_
    · (try simp only[]);omega
    exact⟨by (try simp only[]);omega,e9,⟨by assumption,by assumption⟩⟩
  refine gx Bq_ 8 ?_;refine cV e14 R32_ (Ie_ _ _) rfl fun r1 hr15 e17 w16=>?_;refine gm Bq_ 13 [1] fun B19=>?_;refine cV e17 R32_ (Ie_ _ _) rfl fun r2 hr20 e22 w21=>?_;refine gm Bq_ 12 [2] fun B24=>?_;refine call Oc_ rfl rfl fun w25=>?_;refine gx Bq_ 1 ?_;refine ungd rfl rfl ?_;refine gx Bq_ 1 ?_;refine ungd rfl rfl ?_;refine gy Bq_ 13 ?_;exact rt1 rfl rfl (S_ (fun r:Bool=> .bool r) e22 (ple rfl))
theorem Tk_:Fn Tryz.prog gb 184 [] (.bool (Og_)):=by
  refine fC Tryz.func184 Bq_ Tryz.ntmps184 fun w N H hG=>?_;have e0:=Og_.eq_1;refine gx Bq_ 7 ?_;refine call Tl_ rfl rfl fun w1=>?_;refine gx Bq_ 4 ?_;exact rt1 rfl rfl (S_ (fun r:Bool=> .bool r) e0 (ple rfl))
theorem Tn_:Fn Tryz.prog gb 102 [] (.bool (Oi_)):=by
  refine fC Tryz.func102 Bq_ Tryz.ntmps102 fun w N H hG=>?_;have e0:=Oi_.eq_1;refine gx Bq_ 7 ?_;refine cV e0 R6_ (M0_ _ _) rfl fun r hr1 e3 w2=>?_;have hA3:=knew_ok 7 100 (by decide)
  (try rw[<- hr1] at hA3)
  refine gx Bq_ 1 ?_;refine cV e3 R11_ (H3_ _ (⟨[113],3,0,[]⟩:QueueR)) rfl fun r1 hr5 e7 w6=>?_;have hA7:=Re_ (q:=(⟨[113],3,0,[]⟩:QueueR)) (s:=r) (by first|assumption|exact StOk.stk (by assumption))
  (try rw[<- hr5] at hA7)
  refine gm Bq_ 12 [0] fun B10=>?_;refine cV e7 R17_ (Ih_ _ _ (⟨0,[97],[],[],[],0,0⟩:Mail) (hh:=by first|omega|decide)) rfl fun r2 hr11 e13 w12=>?_
  (try have hA13:=Rf_ (s:=r1.1) (n:=[113]) (m:=(⟨0,[97],[],[],[],0,0⟩:Mail)) (by first|assumption|exact StOk.stk (by assumption)) (by (try simp only[]);omega);(try rw[<- hr11] at hA13);obtain⟨hA13_0,hA13_1,hA13_2⟩:=hA13)
  refine gm Bq_ 15 [1,2] fun B16=>?_;refine call Jn_ rfl rfl fun w18=>?_;refine gx Bq_ 1 ?_;refine ungd rfl rfl ?_;refine call Tg_ rfl rfl fun w19=>?_;refine gx Bq_ 2 ?_;refine callg rfl (fun hc=>Tk_) rfl trivial rfl rfl fun _=>?_;refine gy Bq_ 17 ?_;exact rt1 rfl rfl (S_ (fun r:Bool=> .bool r) e13 (ple rfl))
theorem Tm_:Fn Tryz.prog gb 42 [] (.bool (Oh_)):=by
  refine fC Tryz.func42 Bq_ Tryz.ntmps42 fun w N H hG=>?_;have e0:=Oh_.eq_1;refine gx Bq_ 7 ?_;refine call Tn_ rfl rfl fun w1=>?_;refine gx Bq_ 4 ?_;exact rt1 rfl rfl (S_ (fun r:Bool=> .bool r) e0 (ple rfl))
theorem cb22:Z_ Tryz.prog 22:=W_ Tryz.func22 (by kernel_rfl) (by kernel_rfl)
def tbv126:Tb:=[(3,ty3),(9,ty9),(22,ty22),(23,ty23),(26,ty26),(27,ty27),(54,ty54),(58,ty58),(60,ty60),(63,ty63),(65,ty65),(67,ty67),(75,ty75),(77,ty77),(94,ty94)]
theorem Hg_:tbB Tryz.prog tbv126=true:=by kernel_rfl
theorem Tp_:Fn Tryz.prog gb 9 [] (.bool (Jp_)):=by
  refine fC Tryz.func9 Hg_ Tryz.ntmps9 fun w N H hG=>?_;have e0:=Jp_.eq_1;refine gx Hg_ 7 ?_;refine hinl [] Hg_ Tryz.func22 rfl Tryz.ntmps22 cb22 rfl rfl rfl rfl fun Hc1 hHc1=>?_;refine gm Hg_ 8 [0] fun B3=>?_;refine ef (bsl 1 PlaceR.pc [(⟨[108,111,119],(⟨0,0⟩:LabelR),500,1⟩:PlaceR)] Hg_ rfl rfl rfl rfl rfl (fun _=>rfl) rfl (by decide) (by decide) rfl fun u4=>?_);refine ef (bsl 2 i64c [0] Hg_ rfl rfl rfl rfl rfl (fun _=>rfl) rfl (by decide) (by decide) rfl fun u5=>?_);refine give 1 rfl ?_;refine give 2 rfl ?_;refine gm Hg_ 5 [] fun _=>?_;refine inlr rfl rfl rfl trivial ?_;refine cV e0 R21_ (M1_ (⟨4,1,[(⟨[108,111,119],(⟨0,0⟩:LabelR),500,1⟩:PlaceR)],[0],[]⟩:PolicyR) _ (hp:=by first|assumption|exact W4_ (by decide +kernel)) (hk:=by first|omega|decide +kernel)) rfl fun r hr7 e9 w8=>?_;have hA9:=new_ok (p:=(⟨4,1,[(⟨[108,111,119],(⟨0,0⟩:LabelR),500,1⟩:PlaceR)],[0],[]⟩:PolicyR)) (k:=0) (by first|assumption|exact W4_ (by decide +kernel)) (by first|omega|(simp;done)|decide +kernel)
  (try rw[<- hr7] at hA9)
  refine gm Hg_ 13 [1] fun B12=>?_;refine ef (bsl 2 DeedR.pc [(⟨0,0,(⟨[97],1,[]⟩:ShopR),(⟨[],0,0,[]⟩:QueueR),(⟨[],[],false,[],[],false⟩:BindR),[],0,0,0,0,0,(⟨0,[],[],[],[],0,0⟩:Mail),[]⟩:DeedR),(⟨2,0,(⟨[],0,[]⟩:ShopR),(⟨[113],4,0,[]⟩:QueueR),(⟨[],[],false,[],[],false⟩:BindR),[],0,0,0,0,0,(⟨0,[],[],[],[],0,0⟩:Mail),[]⟩:DeedR),(⟨4,0,(⟨[],0,[]⟩:ShopR),(⟨[],0,0,[]⟩:QueueR),(⟨[97],[113],false,[],[],false⟩:BindR),[],0,0,0,0,0,(⟨0,[],[],[],[],0,0⟩:Mail),[]⟩:DeedR)] Hg_ rfl rfl rfl rfl rfl (fun _=>rfl) rfl (by decide) (by decide) rfl fun u13=>?_);refine gx Hg_ 5 ?_;refine givec 2 rfl ?_;refine loop (ι:=Nat×Nat×B_) [1,20,21] [0] (fun ⟨f,v,x⟩=>[(22, .int .i64 (v:Int))]) (fun ⟨f,v,x⟩=>[(1, .box (B12 0) 54 (B_.pc x))]) (fun ⟨f,v,x⟩=>([(⟨0,0,(⟨[97],1,[]⟩:ShopR),(⟨[],0,0,[]⟩:QueueR),(⟨[],[],false,[],[],false⟩:BindR),[],0,0,0,0,0,(⟨0,[],[],[],[],0,0⟩:Mail),[]⟩:DeedR),(⟨2,0,(⟨[],0,[]⟩:ShopR),(⟨[113],4,0,[]⟩:QueueR),(⟨[],[],false,[],[],false⟩:BindR),[],0,0,0,0,0,(⟨0,[],[],[],[],0,0⟩:Mail),[]⟩:DeedR),(⟨4,0,(⟨[],0,[]⟩:ShopR),(⟨[],0,0,[]⟩:QueueR),(⟨[97],[113],false,[],[],false⟩:BindR),[],0,0,0,0,0,(⟨0,[],[],[],[],0,0⟩:Mail),[]⟩:DeedR)].length)-v<f/\Jp_=H8_ f v x/\StOk x) (fun ⟨f,v,x⟩=>f) ⟨(([(⟨0,0,(⟨[97],1,[]⟩:ShopR),(⟨[],0,0,[]⟩:QueueR),(⟨[],[],false,[],[],false⟩:BindR),[],0,0,0,0,0,(⟨0,[],[],[],[],0,0⟩:Mail),[]⟩:DeedR),(⟨2,0,(⟨[],0,[]⟩:ShopR),(⟨[113],4,0,[]⟩:QueueR),(⟨[],[],false,[],[],false⟩:BindR),[],0,0,0,0,0,(⟨0,[],[],[],[],0,0⟩:Mail),[]⟩:DeedR),(⟨4,0,(⟨[],0,[]⟩:ShopR),(⟨[],0,0,[]⟩:QueueR),(⟨[97],[113],false,[],[],false⟩:BindR),[],0,0,0,0,0,(⟨0,[],[],[],[],0,0⟩:Mail),[]⟩:DeedR)].length)-0+1),0,r⟩ ⟨rfl,trivial⟩ ⟨rfl,trivial⟩ ?_ ?_
  · exact⟨Nat.lt_succ_self _,e9,by assumption⟩
  rintro⟨f,v,x⟩ ⟨hp14_1,hp14_2,hp14_3⟩;have hlen0:([(⟨0,0,(⟨[97],1,[]⟩:ShopR),(⟨[],0,0,[]⟩:QueueR),(⟨[],[],false,[],[],false⟩:BindR),[],0,0,0,0,0,(⟨0,[],[],[],[],0,0⟩:Mail),[]⟩:DeedR),(⟨2,0,(⟨[],0,[]⟩:ShopR),(⟨[113],4,0,[]⟩:QueueR),(⟨[],[],false,[],[],false⟩:BindR),[],0,0,0,0,0,(⟨0,[],[],[],[],0,0⟩:Mail),[]⟩:DeedR),(⟨4,0,(⟨[],0,[]⟩:ShopR),(⟨[],0,0,[]⟩:QueueR),(⟨[97],[113],false,[],[],false⟩:BindR),[],0,0,0,0,0,(⟨0,[],[],[],[],0,0⟩:Mail),[]⟩:DeedR)]).length<=100:=by decide
  obtain⟨f1,rfl⟩:∃ q,f=q+1:=⟨f-1,by omega⟩;have e_f1:=hp14_2.trans (H8_.eq_2 _ _ _);refine gx Hg_ 6 ?_;refine cD e_f1 (fun p16 e17=>?_) (fun p37 e38=>?_)
  · have hc18:=getG (xs:=[(⟨0,0,(⟨[97],1,[]⟩:ShopR),(⟨[],0,0,[]⟩:QueueR),(⟨[],[],false,[],[],false⟩:BindR),[],0,0,0,0,0,(⟨0,[],[],[],[],0,0⟩:Mail),[]⟩:DeedR),(⟨2,0,(⟨[],0,[]⟩:ShopR),(⟨[113],4,0,[]⟩:QueueR),(⟨[],[],false,[],[],false⟩:BindR),[],0,0,0,0,0,(⟨0,[],[],[],[],0,0⟩:Mail),[]⟩:DeedR),(⟨4,0,(⟨[],0,[]⟩:ShopR),(⟨[],0,0,[]⟩:QueueR),(⟨[97],[113],false,[],[],false⟩:BindR),[],0,0,0,0,0,(⟨0,[],[],[],[],0,0⟩:Mail),[]⟩:DeedR)]) (k:=v) (by omega);have hz_hc18:=ddB_ok (l:=[(⟨0,0,(⟨[97],1,[]⟩:ShopR),(⟨[],0,0,[]⟩:QueueR),(⟨[],[],false,[],[],false⟩:BindR),[],0,0,0,0,0,(⟨0,[],[],[],[],0,0⟩:Mail),[]⟩:DeedR),(⟨2,0,(⟨[],0,[]⟩:ShopR),(⟨[113],4,0,[]⟩:QueueR),(⟨[],[],false,[],[],false⟩:BindR),[],0,0,0,0,0,(⟨0,[],[],[],[],0,0⟩:Mail),[]⟩:DeedR),(⟨4,0,(⟨[],0,[]⟩:ShopR),(⟨[],0,0,[]⟩:QueueR),(⟨[97],[113],false,[],[],false⟩:BindR),[],0,0,0,0,0,(⟨0,[],[],[],[],0,0⟩:Mail),[]⟩:DeedR)]) (by decide +kernel) (gt [(⟨0,0,(⟨[97],1,[]⟩:ShopR),(⟨[],0,0,[]⟩:QueueR),(⟨[],[],false,[],[],false⟩:BindR),[],0,0,0,0,0,(⟨0,[],[],[],[],0,0⟩:Mail),[]⟩:DeedR),(⟨2,0,(⟨[],0,[]⟩:ShopR),(⟨[113],4,0,[]⟩:QueueR),(⟨[],[],false,[],[],false⟩:BindR),[],0,0,0,0,0,(⟨0,[],[],[],[],0,0⟩:Mail),[]⟩:DeedR),(⟨4,0,(⟨[],0,[]⟩:ShopR),(⟨[],0,0,[]⟩:QueueR),(⟨[97],[113],false,[],[],false⟩:BindR),[],0,0,0,0,0,(⟨0,[],[],[],[],0,0⟩:Mail),[]⟩:DeedR)] v) (List.mem_of_getElem? hc18);have hy_hc18:=hz_hc18.1;have hx_hc18:=hz_hc18.2;refine gx Hg_ 6 ?_;refine q1 (qidx Hg_ v rfl rfl rfl hc18 rfl rfl rfl rfl) rfl fun w19=>?_;refine gm Hg_ 9 [2] fun B21=>?_;refine cV e17 R22_ (Em_ _ _ (hd:=by first|assumption|exact dd1 (by decide +kernel)|exact⟨by first|(simp;done)|omega,by first|(simp;done)|omega,by first|(simp;done)|((try dsimp only);omega),by first|(simp;done)|((try dsimp only);omega)⟩)) rfl fun r1 hr22 e24 w23=>?_;have hA24:=Xq_ (s:=x) (d:=(gt [(⟨0,0,(⟨[97],1,[]⟩:ShopR),(⟨[],0,0,[]⟩:QueueR),(⟨[],[],false,[],[],false⟩:BindR),[],0,0,0,0,0,(⟨0,[],[],[],[],0,0⟩:Mail),[]⟩:DeedR),(⟨2,0,(⟨[],0,[]⟩:ShopR),(⟨[113],4,0,[]⟩:QueueR),(⟨[],[],false,[],[],false⟩:BindR),[],0,0,0,0,0,(⟨0,[],[],[],[],0,0⟩:Mail),[]⟩:DeedR),(⟨4,0,(⟨[],0,[]⟩:ShopR),(⟨[],0,0,[]⟩:QueueR),(⟨[97],[113],false,[],[],false⟩:BindR),[],0,0,0,0,0,(⟨0,[],[],[],[],0,0⟩:Mail),[]⟩:DeedR)] v)) (by assumption) (by first|assumption|exact dd1 (by decide +kernel)|exact⟨by first|(simp;done)|omega,by first|(simp;done)|omega,by first|(simp;done)|((try dsimp only);omega),by first|(simp;done)|((try dsimp only);omega)⟩) (by first|assumption|omega|(dsimp only;omega)|decide +kernel)
    (try rw[<- hr22] at hA24)
    refine gm Hg_ 18 [3,4] fun B27=>?_;refine cN e24 (fun p31 e32=>?_) (fun p34 e35=>?_)
    · refine gx Hg_ 12 ?_;exact rt1 rfl rfl (S_ (fun r:Bool=> .bool r) e32 (ple rfl))
    refine gmy Hg_ 12 [] fun _=>?_;refine next ⟨f1,(v+1),r1.1⟩ rfl rfl ⟨rfl,trivial⟩ ⟨rfl,trivial⟩ ?_ ?_
    · (try simp only[]);omega
    exact⟨by (try simp only[]);omega,e35,by assumption⟩
  refine gx Hg_ 10 ?_;refine cV e38 R22_ (Em_ _ (⟨6,0,(⟨[],0,[]⟩:ShopR),(⟨[],0,0,[]⟩:QueueR),(⟨[],[],false,[],[],false⟩:BindR),[],0,0,0,0,0,(⟨0,[97],[],[],[120],0,0⟩:Mail),[]⟩:DeedR) (hd:=by first|assumption|exact dd1 (by decide +kernel)|exact⟨by first|(simp;done)|omega,by first|(simp;done)|omega,by first|(simp;done)|((try dsimp only);omega),by first|(simp;done)|((try dsimp only);omega)⟩)) rfl fun r2 hr39 e41 w40=>?_;have hA41:=Xq_ (s:=x) (d:=(⟨6,0,(⟨[],0,[]⟩:ShopR),(⟨[],0,0,[]⟩:QueueR),(⟨[],[],false,[],[],false⟩:BindR),[],0,0,0,0,0,(⟨0,[97],[],[],[120],0,0⟩:Mail),[]⟩:DeedR)) (by assumption) (by first|assumption|exact dd1 (by decide +kernel)|exact⟨by first|(simp;done)|omega,by first|(simp;done)|omega,by first|(simp;done)|((try dsimp only);omega),by first|(simp;done)|((try dsimp only);omega)⟩) (by first|assumption|omega|(dsimp only;omega)|decide +kernel)
  (try rw[<- hr39] at hA41)
  refine gm Hg_ 14 [2] fun B44=>?_;refine cV e41 R22_ (Em_ _ (⟨7,0,(⟨[],0,[]⟩:ShopR),(⟨[],0,0,[]⟩:QueueR),(⟨[],[],false,[],[],false⟩:BindR),[113],0,0,0,0,0,(⟨0,[],[],[],[],0,0⟩:Mail),[]⟩:DeedR) (hd:=by first|assumption|exact dd1 (by decide +kernel)|exact⟨by first|(simp;done)|omega,by first|(simp;done)|omega,by first|(simp;done)|((try dsimp only);omega),by first|(simp;done)|((try dsimp only);omega)⟩)) rfl fun r3 hr45 e47 w46=>?_;have hA47:=Xq_ (s:=r2.1) (d:=(⟨7,0,(⟨[],0,[]⟩:ShopR),(⟨[],0,0,[]⟩:QueueR),(⟨[],[],false,[],[],false⟩:BindR),[113],0,0,0,0,0,(⟨0,[],[],[],[],0,0⟩:Mail),[]⟩:DeedR)) (by assumption) (by first|assumption|exact dd1 (by decide +kernel)|exact⟨by first|(simp;done)|omega,by first|(simp;done)|omega,by first|(simp;done)|((try dsimp only);omega),by first|(simp;done)|((try dsimp only);omega)⟩) (by first|assumption|omega|(dsimp only;omega)|decide +kernel)
  (try rw[<- hr45] at hA47)
  refine gm Hg_ 13 [3,4] fun B50=>?_;refine call Tb_ rfl rfl fun w52=>?_;refine gx Hg_ 1 ?_;refine callg rfl (fun hc=>Tm_) rfl trivial rfl rfl fun _=>?_;refine gy Hg_ 2 ?_;refine callg rfl (fun hc=>l22_Awake) rfl trivial rfl rfl fun _=>?_;refine gy Hg_ 2 ?_;refine callg rfl (fun hc=>Ti_) rfl trivial rfl rfl fun _=>?_;refine gy Hg_ 25 ?_;exact rt1 rfl rfl (S_ (fun r:Bool=> .bool r) e47 (ple rfl))
theorem ag3:Ag Tryz.prog 3 false:=fun w=>by kernel_rfl
theorem ag49:Ag Tryz.prog 49 true:=fun w=>by kernel_rfl
theorem eqg160:Tryz.prog.eqGuardType Tryz.prog.depth 160=false:=by kernel_rfl
theorem eqg47:Tryz.prog.eqGuardType Tryz.prog.depth 47=false:=by kernel_rfl
theorem eqg50:Tryz.prog.eqGuardType Tryz.prog.depth 50=false:=by kernel_rfl
theorem veq160 (p q:NoteR):∀ (H:Hp) (vs us:List Value),Sims H (NoteR.pc p) vs->Sims H (NoteR.pc q) us->EqV Tryz.prog 10000 160 (.agg vs.toArray) (.agg us.toArray) (decide (p=q)):=by
  intro H vs us hv hu;obtain⟨_,_,rfl,v0,v_0⟩:=hv.inv_cons;obtain⟨_,_,rfl,v1,v_1⟩:=v_0.inv_cons;obtain⟨_,_,rfl,v2,v_2⟩:=v_1.inv_cons
  cases v_2.inv_nil
  cases v0.inv_int.1;cases v1.inv_int.1;cases v2.inv_str.1
  obtain⟨_,_,rfl,u0,u_0⟩:=hu.inv_cons;obtain⟨_,_,rfl,u1,u_1⟩:=u_0.inv_cons;obtain⟨_,_,rfl,u2,u_2⟩:=u_1.inv_cons
  cases u_2.inv_nil
  cases u0.inv_int.1;cases u1.inv_int.1;cases u2.inv_str.1
  exact EqV.to' (Gm_ Tryz.underlying160 (by kernel_rfl) (Fq_ (by decide) ag36 rfl rfl (Bb_ Tryz.underlying36) (Fq_ (by decide) ag5 rfl rfl (Bb_ Tryz.underlying5) (Fq_ (by decide) ag9 rfl rfl (Kw_ Tryz.underlying9) Gl_)))) (by obtain⟨a0,a1,a2⟩:=p;obtain⟨b0,b1,b2⟩:=q;rw[Bool.eq_iff_iff];simp)
theorem veq47 (p q:A16_u64):∀ (H:Hp) (vs us:List Value),Sims H (A16_u64.pc p) vs->Sims H (A16_u64.pc q) us->EqV Tryz.prog 10000 47 (.agg vs.toArray) (.agg us.toArray) (decide (p=q)):=by
  intro H vs us hv hu;obtain⟨_,_,rfl,v0,v_0⟩:=hv.inv_cons;obtain⟨_,_,rfl,v1,v_1⟩:=v_0.inv_cons;obtain⟨_,_,rfl,v2,v_2⟩:=v_1.inv_cons;obtain⟨_,_,rfl,v3,v_3⟩:=v_2.inv_cons;obtain⟨_,_,rfl,v4,v_4⟩:=v_3.inv_cons;obtain⟨_,_,rfl,v5,v_5⟩:=v_4.inv_cons;obtain⟨_,_,rfl,v6,v_6⟩:=v_5.inv_cons;obtain⟨_,_,rfl,v7,v_7⟩:=v_6.inv_cons;obtain⟨_,_,rfl,v8,v_8⟩:=v_7.inv_cons;obtain⟨_,_,rfl,v9,v_9⟩:=v_8.inv_cons;obtain⟨_,_,rfl,v10,v_10⟩:=v_9.inv_cons;obtain⟨_,_,rfl,v11,v_11⟩:=v_10.inv_cons;obtain⟨_,_,rfl,v12,v_12⟩:=v_11.inv_cons;obtain⟨_,_,rfl,v13,v_13⟩:=v_12.inv_cons;obtain⟨_,_,rfl,v14,v_14⟩:=v_13.inv_cons;obtain⟨_,_,rfl,v15,v_15⟩:=v_14.inv_cons
  cases v_15.inv_nil
  cases v0.inv_int.1;cases v1.inv_int.1;cases v2.inv_int.1;cases v3.inv_int.1;cases v4.inv_int.1;cases v5.inv_int.1;cases v6.inv_int.1;cases v7.inv_int.1;cases v8.inv_int.1;cases v9.inv_int.1;cases v10.inv_int.1;cases v11.inv_int.1;cases v12.inv_int.1;cases v13.inv_int.1;cases v14.inv_int.1;cases v15.inv_int.1
  obtain⟨_,_,rfl,u0,u_0⟩:=hu.inv_cons;obtain⟨_,_,rfl,u1,u_1⟩:=u_0.inv_cons;obtain⟨_,_,rfl,u2,u_2⟩:=u_1.inv_cons;obtain⟨_,_,rfl,u3,u_3⟩:=u_2.inv_cons;obtain⟨_,_,rfl,u4,u_4⟩:=u_3.inv_cons;obtain⟨_,_,rfl,u5,u_5⟩:=u_4.inv_cons;obtain⟨_,_,rfl,u6,u_6⟩:=u_5.inv_cons;obtain⟨_,_,rfl,u7,u_7⟩:=u_6.inv_cons;obtain⟨_,_,rfl,u8,u_8⟩:=u_7.inv_cons;obtain⟨_,_,rfl,u9,u_9⟩:=u_8.inv_cons;obtain⟨_,_,rfl,u10,u_10⟩:=u_9.inv_cons;obtain⟨_,_,rfl,u11,u_11⟩:=u_10.inv_cons;obtain⟨_,_,rfl,u12,u_12⟩:=u_11.inv_cons;obtain⟨_,_,rfl,u13,u_13⟩:=u_12.inv_cons;obtain⟨_,_,rfl,u14,u_14⟩:=u_13.inv_cons;obtain⟨_,_,rfl,u15,u_15⟩:=u_14.inv_cons
  cases u_15.inv_nil
  cases u0.inv_int.1;cases u1.inv_int.1;cases u2.inv_int.1;cases u3.inv_int.1;cases u4.inv_int.1;cases u5.inv_int.1;cases u6.inv_int.1;cases u7.inv_int.1;cases u8.inv_int.1;cases u9.inv_int.1;cases u10.inv_int.1;cases u11.inv_int.1;cases u12.inv_int.1;cases u13.inv_int.1;cases u14.inv_int.1;cases u15.inv_int.1
  exact EqV.to' (Zc_ [0,1,2,3,4,5,6,7,8,9,10,11,12,13,14,15] Tryz.underlying47 Tryz.underlying36 (by kernel_rfl:Tryz.prog.cellsOf 36=1) rfl (Kl_ ag36 rfl rfl (Bb_ Tryz.underlying36) (Kl_ ag36 rfl rfl (Bb_ Tryz.underlying36) (Kl_ ag36 rfl rfl (Bb_ Tryz.underlying36) (Kl_ ag36 rfl rfl (Bb_ Tryz.underlying36) (Kl_ ag36 rfl rfl (Bb_ Tryz.underlying36) (Kl_ ag36 rfl rfl (Bb_ Tryz.underlying36) (Kl_ ag36 rfl rfl (Bb_ Tryz.underlying36) (Kl_ ag36 rfl rfl (Bb_ Tryz.underlying36) (Kl_ ag36 rfl rfl (Bb_ Tryz.underlying36) (Kl_ ag36 rfl rfl (Bb_ Tryz.underlying36) (Kl_ ag36 rfl rfl (Bb_ Tryz.underlying36) (Kl_ ag36 rfl rfl (Bb_ Tryz.underlying36) (Kl_ ag36 rfl rfl (Bb_ Tryz.underlying36) (Kl_ ag36 rfl rfl (Bb_ Tryz.underlying36) (Kl_ ag36 rfl rfl (Bb_ Tryz.underlying36) (Kl_ ag36 rfl rfl (Bb_ Tryz.underlying36) Zb_))))))))))))))))) (by obtain⟨a0,a1,a2,a3,a4,a5,a6,a7,a8,a9,a10,a11,a12,a13,a14,a15⟩:=p;obtain⟨b0,b1,b2,b3,b4,b5,b6,b7,b8,b9,b10,b11,b12,b13,b14,b15⟩:=q;rw[Bool.eq_iff_iff];simp)
theorem veq50 (p q:A8_SpentR):∀ (H:Hp) (vs us:List Value),Sims H (A8_SpentR.pc p) vs->Sims H (A8_SpentR.pc q) us->EqV Tryz.prog 10000 50 (.agg vs.toArray) (.agg us.toArray) (decide (p=q)):=by
  intro H vs us hv hu;obtain⟨_,_,rfl,v0,v_0⟩:=hv.inv_cons;obtain⟨_,_,rfl,v1,v_1⟩:=v_0.inv_cons;obtain⟨_,_,rfl,v2,v_2⟩:=v_1.inv_cons;obtain⟨_,_,rfl,v3,v_3⟩:=v_2.inv_cons;obtain⟨_,_,rfl,v4,v_4⟩:=v_3.inv_cons;obtain⟨_,_,rfl,v5,v_5⟩:=v_4.inv_cons;obtain⟨_,_,rfl,v6,v_6⟩:=v_5.inv_cons;obtain⟨_,_,rfl,v7,v_7⟩:=v_6.inv_cons;obtain⟨_,_,rfl,v8,v_8⟩:=v_7.inv_cons;obtain⟨_,_,rfl,v9,v_9⟩:=v_8.inv_cons;obtain⟨_,_,rfl,v10,v_10⟩:=v_9.inv_cons;obtain⟨_,_,rfl,v11,v_11⟩:=v_10.inv_cons;obtain⟨_,_,rfl,v12,v_12⟩:=v_11.inv_cons;obtain⟨_,_,rfl,v13,v_13⟩:=v_12.inv_cons;obtain⟨_,_,rfl,v14,v_14⟩:=v_13.inv_cons;obtain⟨_,_,rfl,v15,v_15⟩:=v_14.inv_cons
  cases v_15.inv_nil
  cases v0.inv_int.1;cases v1.inv_int.1;cases v2.inv_int.1;cases v3.inv_int.1;cases v4.inv_int.1;cases v5.inv_int.1;cases v6.inv_int.1;cases v7.inv_int.1;cases v8.inv_int.1;cases v9.inv_int.1;cases v10.inv_int.1;cases v11.inv_int.1;cases v12.inv_int.1;cases v13.inv_int.1;cases v14.inv_int.1;cases v15.inv_int.1
  obtain⟨_,_,rfl,u0,u_0⟩:=hu.inv_cons;obtain⟨_,_,rfl,u1,u_1⟩:=u_0.inv_cons;obtain⟨_,_,rfl,u2,u_2⟩:=u_1.inv_cons;obtain⟨_,_,rfl,u3,u_3⟩:=u_2.inv_cons;obtain⟨_,_,rfl,u4,u_4⟩:=u_3.inv_cons;obtain⟨_,_,rfl,u5,u_5⟩:=u_4.inv_cons;obtain⟨_,_,rfl,u6,u_6⟩:=u_5.inv_cons;obtain⟨_,_,rfl,u7,u_7⟩:=u_6.inv_cons;obtain⟨_,_,rfl,u8,u_8⟩:=u_7.inv_cons;obtain⟨_,_,rfl,u9,u_9⟩:=u_8.inv_cons;obtain⟨_,_,rfl,u10,u_10⟩:=u_9.inv_cons;obtain⟨_,_,rfl,u11,u_11⟩:=u_10.inv_cons;obtain⟨_,_,rfl,u12,u_12⟩:=u_11.inv_cons;obtain⟨_,_,rfl,u13,u_13⟩:=u_12.inv_cons;obtain⟨_,_,rfl,u14,u_14⟩:=u_13.inv_cons;obtain⟨_,_,rfl,u15,u_15⟩:=u_14.inv_cons
  cases u_15.inv_nil
  cases u0.inv_int.1;cases u1.inv_int.1;cases u2.inv_int.1;cases u3.inv_int.1;cases u4.inv_int.1;cases u5.inv_int.1;cases u6.inv_int.1;cases u7.inv_int.1;cases u8.inv_int.1;cases u9.inv_int.1;cases u10.inv_int.1;cases u11.inv_int.1;cases u12.inv_int.1;cases u13.inv_int.1;cases u14.inv_int.1;cases u15.inv_int.1
  exact EqV.to' (Zc_ [0,1,2,3,4,5,6,7] Tryz.underlying50 Tryz.underlying49 (by kernel_rfl:Tryz.prog.cellsOf 49=2) rfl (St_ ag49 sz49 rfl rfl (Gm_ Tryz.underlying49 (by kernel_rfl) (Fq_ (by decide) ag36 rfl rfl (Bb_ Tryz.underlying36) (Fq_ (by decide) ag3 rfl rfl (Bb_ Tryz.underlying3) Gl_))) (St_ ag49 sz49 rfl rfl (Gm_ Tryz.underlying49 (by kernel_rfl) (Fq_ (by decide) ag36 rfl rfl (Bb_ Tryz.underlying36) (Fq_ (by decide) ag3 rfl rfl (Bb_ Tryz.underlying3) Gl_))) (St_ ag49 sz49 rfl rfl (Gm_ Tryz.underlying49 (by kernel_rfl) (Fq_ (by decide) ag36 rfl rfl (Bb_ Tryz.underlying36) (Fq_ (by decide) ag3 rfl rfl (Bb_ Tryz.underlying3) Gl_))) (St_ ag49 sz49 rfl rfl (Gm_ Tryz.underlying49 (by kernel_rfl) (Fq_ (by decide) ag36 rfl rfl (Bb_ Tryz.underlying36) (Fq_ (by decide) ag3 rfl rfl (Bb_ Tryz.underlying3) Gl_))) (St_ ag49 sz49 rfl rfl (Gm_ Tryz.underlying49 (by kernel_rfl) (Fq_ (by decide) ag36 rfl rfl (Bb_ Tryz.underlying36) (Fq_ (by decide) ag3 rfl rfl (Bb_ Tryz.underlying3) Gl_))) (St_ ag49 sz49 rfl rfl (Gm_ Tryz.underlying49 (by kernel_rfl) (Fq_ (by decide) ag36 rfl rfl (Bb_ Tryz.underlying36) (Fq_ (by decide) ag3 rfl rfl (Bb_ Tryz.underlying3) Gl_))) (St_ ag49 sz49 rfl rfl (Gm_ Tryz.underlying49 (by kernel_rfl) (Fq_ (by decide) ag36 rfl rfl (Bb_ Tryz.underlying36) (Fq_ (by decide) ag3 rfl rfl (Bb_ Tryz.underlying3) Gl_))) (St_ ag49 sz49 rfl rfl (Gm_ Tryz.underlying49 (by kernel_rfl) (Fq_ (by decide) ag36 rfl rfl (Bb_ Tryz.underlying36) (Fq_ (by decide) ag3 rfl rfl (Bb_ Tryz.underlying3) Gl_))) Zb_))))))))) (by obtain⟨⟨a0_0,a0_1⟩,⟨a1_0,a1_1⟩,⟨a2_0,a2_1⟩,⟨a3_0,a3_1⟩,⟨a4_0,a4_1⟩,⟨a5_0,a5_1⟩,⟨a6_0,a6_1⟩,⟨a7_0,a7_1⟩⟩:=p;obtain⟨⟨b0_0,b0_1⟩,⟨b1_0,b1_1⟩,⟨b2_0,b2_1⟩,⟨b3_0,b3_1⟩,⟨b4_0,b4_1⟩,⟨b5_0,b5_1⟩,⟨b6_0,b6_1⟩,⟨b7_0,b7_1⟩⟩:=q;rw[Bool.eq_iff_iff];simp)
abbrev ty47:TI:=⟨.arr,16,128,[.int .u64 0, .int .u64 0, .int .u64 0, .int .u64 0, .int .u64 0, .int .u64 0, .int .u64 0, .int .u64 0, .int .u64 0, .int .u64 0, .int .u64 0, .int .u64 0, .int .u64 0, .int .u64 0, .int .u64 0, .int .u64 0]⟩
abbrev ty50:TI:=⟨.arr,16,128,[.int .u64 0, .int .i64 0, .int .u64 0, .int .i64 0, .int .u64 0, .int .i64 0, .int .u64 0, .int .i64 0, .int .u64 0, .int .i64 0, .int .u64 0, .int .i64 0, .int .u64 0, .int .i64 0, .int .u64 0, .int .i64 0]⟩
def tbv127:Tb:=[(3,ty3),(4,ty4),(32,ty32),(33,ty33),(35,ty35),(36,ty36),(37,ty37),(38,ty38),(40,ty40),(43,ty43),(44,ty44),(46,ty46),(47,ty47),(50,ty50),(52,ty52),(58,ty58),(60,ty60),(63,ty63),(65,ty65),(75,ty75),(100,ty100),(102,Vw_),(160,Yh_),(170,ty170)]
theorem T_:tbB Tryz.prog tbv127=true:=by kernel_rfl
theorem eq_Shop (a:List ShopR) (b:List ShopR):Fn Tryz.prog gb 139 [.sl ShopR.pc a, .sl ShopR.pc b] (.bool (decide (a=b))):=by
  refine fC Tryz.func139 T_ Tryz.ntmps139 fun w N H hG=>?_;have a_l:a.length<=140737488355328:=w.1.1;have b_l:b.length<=140737488355328:=w.2.1.1;refine gx T_ 15 ?_;refine cnd rfl (fun h1=>?_) (fun h1=>?_)
  · have h2:=Cp_ h1;have p3:=df h2;refine gx T_ 7 ?_;refine rt1 rfl rfl (ple ?_);exact congrArg PV.bool (Qq_ (by assumption)).symm
  have h4:=Co_ h1;have p5:=dt h4;refine gx T_ 11 ?_;refine loop (ι:=Nat) [0,1,6,7,8,9,10,11,12] [] (fun k=>[(13, .int .i64 (k:Int))]) (fun k=>[]) (fun k=>k<=a.length /\ decide (a=b) = decide (a.drop k=b.drop k)) (fun k=>a.length-k) 0 ⟨rfl,trivial⟩ trivial ?_ ?_
  · exact⟨Nat.zero_le _,rfl⟩
  rintro k hp6;obtain⟨hk1,hk2⟩:=hp6;refine gx T_ 6 ?_;refine cnd rfl (fun h7=>?_) (fun h7=>?_)
  · have p8:=dt h7;refine gx T_ 11 ?_;refine aN [0,1,2,3,4,5] 9 mixd ?_;refine gX T_ [0,1] 7 ?_;obtain⟨c9,hc10⟩:=getE (xs:=a) (m:=k) (by omega);have c9_w:=ShopR.pwf (w.1.2 c9 (List.mem_of_getElem? hc10));refine vq 2 (qidx T_ k rfl rfl rfl hc10 rfl rfl rfl rfl) rfl (by kernel_rfl) rfl fun w11=>?_;refine gX T_ [3,4,5] 3 ?_;obtain⟨c12,hc13⟩:=getE (xs:=b) (m:=k) (by omega);have c12_w:=ShopR.pwf (w.2.1.2 c12 (List.mem_of_getElem? hc13));refine vq 6 (qidx T_ k rfl rfl rfl hc13 rfl rfl rfl rfl) rfl (by kernel_rfl) rfl fun w14=>?_;refine gX T_ [7] 1 ?_;refine vq 8 (sane rfl rfl eqg58 (veq58 c9 c12)) rfl (by kernel_rfl) rfl fun w15=>?_;refine vD ?_;refine gx T_ 1 ?_;refine cnd rfl (fun h16=>?_) (fun h16=>?_)
    · have h17:=Cp_ h16;have p18:=df h17;refine gx T_ 11 ?_;refine rt1 rfl rfl (ple ?_);exact congrArg PV.bool (Nd_ hk2 (Cj_ hc10) (Cj_ hc13) (by assumption)).symm
    have h19:=Co_ h16;have p20:=dt h19;refine gy T_ 7 ?_;refine next (k+1) rfl rfl ⟨rfl,trivial⟩ trivial ?_ ?_
    · omega
    exact⟨by omega,Ne_ hk2 (Cj_ hc10) (Cj_ hc13) (by assumption)⟩
  have p21:=df h7;refine gx T_ 11 ?_;refine rt1 rfl rfl (ple ?_);exact congrArg PV.bool (Qp_ hk2 (by omega) (by omega)).symm
theorem eq_Note (a:List NoteR) (b:List NoteR):Fn Tryz.prog gb 146 [.sl NoteR.pc a, .sl NoteR.pc b] (.bool (decide (a=b))):=by
  refine fC Tryz.func146 T_ Tryz.ntmps146 fun w N H hG=>?_;have a_l:a.length<=140737488355328:=w.1.1;have b_l:b.length<=140737488355328:=w.2.1.1;refine gx T_ 15 ?_;refine cnd rfl (fun h1=>?_) (fun h1=>?_)
  · have h2:=Cp_ h1;have p3:=df h2;refine gx T_ 7 ?_;refine rt1 rfl rfl (ple ?_);exact congrArg PV.bool (Qq_ (by assumption)).symm
  have h4:=Co_ h1;have p5:=dt h4;refine gx T_ 11 ?_;refine loop (ι:=Nat) [0,1,6,7,8,9,10,11,12] [] (fun k=>[(13, .int .i64 (k:Int))]) (fun k=>[]) (fun k=>k<=a.length /\ decide (a=b) = decide (a.drop k=b.drop k)) (fun k=>a.length-k) 0 ⟨rfl,trivial⟩ trivial ?_ ?_
  · exact⟨Nat.zero_le _,rfl⟩
  rintro k hp6;obtain⟨hk1,hk2⟩:=hp6;refine gx T_ 6 ?_;refine cnd rfl (fun h7=>?_) (fun h7=>?_)
  · have p8:=dt h7;refine gx T_ 11 ?_;refine aN [0,1,2,3,4,5] 9 mixd ?_;refine gX T_ [0,1] 7 ?_;obtain⟨c9,hc10⟩:=getE (xs:=a) (m:=k) (by omega);refine vq 2 (qidx T_ k rfl rfl rfl hc10 rfl rfl rfl rfl) rfl (by kernel_rfl) rfl fun w11=>?_;refine gX T_ [3,4,5] 3 ?_;obtain⟨c12,hc13⟩:=getE (xs:=b) (m:=k) (by omega);refine vq 6 (qidx T_ k rfl rfl rfl hc13 rfl rfl rfl rfl) rfl (by kernel_rfl) rfl fun w14=>?_;refine gX T_ [7] 1 ?_;refine vq 8 (sane rfl rfl eqg160 (veq160 c9 c12)) rfl (by kernel_rfl) rfl fun w15=>?_;refine vD ?_;refine gx T_ 1 ?_;refine cnd rfl (fun h16=>?_) (fun h16=>?_)
    · have h17:=Cp_ h16;have p18:=df h17;refine gx T_ 11 ?_;refine rt1 rfl rfl (ple ?_);exact congrArg PV.bool (Nd_ hk2 (Cj_ hc10) (Cj_ hc13) (by assumption)).symm
    have h19:=Co_ h16;have p20:=dt h19;refine gy T_ 7 ?_;refine next (k+1) rfl rfl ⟨rfl,trivial⟩ trivial ?_ ?_
    · omega
    exact⟨by omega,Ne_ hk2 (Cj_ hc10) (Cj_ hc13) (by assumption)⟩
  have p21:=df h7;refine gx T_ 11 ?_;refine rt1 rfl rfl (ple ?_);exact congrArg PV.bool (Qp_ hk2 (by omega) (by omega)).symm
theorem Rl_ (x:ItemR) (y:ItemR):Fn Tryz.prog gb 228 [.agg (ItemR.pc x), .agg (ItemR.pc y)] (.bool (Ir_ x y)):=by
  refine fC Tryz.func228 T_ Tryz.ntmps228 fun w N H hG=>?_;have x_mail_head_l:x.mail.head.length<=140737488355328:=w.1.2.2.2.1.1;have y_mail_head_l:y.mail.head.length<=140737488355328:=w.2.1.2.2.2.1.1;have e0:=Ir_.eq_1 x y;refine gm T_ 13 [0,1] fun B2=>?_;refine call (Ov_ _ _) rfl rfl fun w4=>?_;refine gy T_ 18 ?_;exact rt1 rfl rfl (S_ (fun r:Bool=> .bool r) e0 (ple rfl))
theorem Uy_ (s1:List BindR) (s2:List BindR):Fn Tryz.prog gb 140 [.sl BindR.pc s1, .sl BindR.pc s2, .fn 141 [] []] (.bool (J9_ s1 s2)):=by
  refine fC Tryz.func140 T_ Tryz.ntmps140 fun w N H hG=>?_;have s1_l:s1.length<=140737488355328:=w.1.1;have s2_l:s2.length<=140737488355328:=w.2.1.1;have e0:=J9_.eq_1 s1 s2;generalize J9_ s1 s2=z at e0 ⊢;refine gx T_ 15 ?_;refine cN e0 (fun p3 e4=>?_) (fun p6 e7=>?_)
  · refine gx T_ 7 ?_;subst e4;exact qr1
  refine gx T_ 11 ?_;refine loop (ι:=Nat) [1,2,15,16] [] (fun k=>[(17, .int .i64 (k:Int))]) (fun k=>[]) (fun k=>k<=s1.length/\z=Eo_ s2 (s1.drop k) k) (fun k=>s1.length-k) 0 ⟨rfl,trivial⟩ trivial ?_ ?_
  · exact⟨Nat.zero_le _,e7⟩
  rintro k ⟨hp8_1,hp8_2⟩;refine gx T_ 6 ?_;refine cn rfl (fun p10=>?_) fun p28=>?_
  · have e11:=Cc_ (f:=fun zz=>Eo_ s2 zz k) hp8_2 (Fj_ (by omega)) (Eo_.eq_2 _ _ _ _);have hc12:=getG (xs:=s1) (k:=k) (by omega);refine gx T_ 7 ?_;refine q1 (qidx T_ k rfl rfl rfl hc12 rfl rfl rfl rfl) rfl fun w13=>?_;have hc16:=getG (xs:=s2) (k:=k) (by omega);refine gm T_ 10 [0] fun B15=>?_;refine q1 (qidx T_ k rfl rfl rfl hc16 rfl rfl rfl rfl) rfl fun w17=>?_;refine gm T_ 10 [1] fun B19=>?_;refine call (Si_ _ _) rfl rfl fun w20=>?_;refine gx T_ 3 ?_;refine cN e11 (fun p23 e24=>?_) (fun p26 e27=>?_)
    · refine gx T_ 11 ?_;subst e24;exact qr1
    refine gy T_ 7 ?_;refine next (k+1) rfl rfl ⟨rfl,trivial⟩ trivial ?_ ?_
    · (try simp only[]);omega
    exact⟨by (try simp only[]);omega,e27⟩
  have e29:=Cc_ (f:=fun zz=>Eo_ s2 zz k) hp8_2 (Fk_ (by omega)) (Eo_.eq_1 _ _);refine gx T_ 11 ?_;subst e29;exact qr1
theorem Uz_ (s1:List ItemR) (s2:List ItemR):Fn Tryz.prog gb 227 [.sl ItemR.pc s1, .sl ItemR.pc s2, .fn 228 [] []] (.bool (Ka_ s1 s2)):=by
  refine fC Tryz.func227 T_ Tryz.ntmps227 fun w N H hG=>?_;have s1_l:s1.length<=140737488355328:=w.1.1;have s2_l:s2.length<=140737488355328:=w.2.1.1;have e0:=Ka_.eq_1 s1 s2;generalize Ka_ s1 s2=z at e0 ⊢;refine gx T_ 15 ?_;refine cN e0 (fun p3 e4=>?_) (fun p6 e7=>?_)
  · refine gx T_ 7 ?_;subst e4;exact qr1
  refine gx T_ 11 ?_;refine loop (ι:=Nat) [1,2,15,16] [] (fun k=>[(17, .int .i64 (k:Int))]) (fun k=>[]) (fun k=>k<=s1.length/\z=Ep_ s2 (s1.drop k) k) (fun k=>s1.length-k) 0 ⟨rfl,trivial⟩ trivial ?_ ?_
  · exact⟨Nat.zero_le _,e7⟩
  rintro k ⟨hp8_1,hp8_2⟩;refine gx T_ 6 ?_;refine cn rfl (fun p10=>?_) fun p26=>?_
  · have e11:=Cc_ (f:=fun zz=>Ep_ s2 zz k) hp8_2 (Fj_ (by omega)) (Ep_.eq_2 _ _ _ _);have hc12:=getG (xs:=s1) (k:=k) (by omega);refine gx T_ 7 ?_;refine q1 (qidx T_ k rfl rfl rfl hc12 rfl rfl rfl rfl) rfl fun w13=>?_;have hc16:=getG (xs:=s2) (k:=k) (by omega);refine gm T_ 10 [0] fun B15=>?_;refine q1 (qidx T_ k rfl rfl rfl hc16 rfl rfl rfl rfl) rfl fun w17=>?_;refine gm T_ 10 [1] fun B19=>?_;refine call (Rl_ _ _) rfl rfl fun w20=>?_;refine gx T_ 3 ?_;refine cE e11 (fun h21 e23=>?_) (fun h21 e25=>?_)
    · have h22:=Cp_ h21;refine gx T_ 11 ?_;subst e23;exact qr1
    have h24:=Co_ h21;refine gy T_ 7 ?_;refine next (k+1) rfl rfl ⟨rfl,trivial⟩ trivial ?_ ?_
    · (try simp only[]);omega
    exact⟨by (try simp only[]);omega,e25⟩
  have e27:=Cc_ (f:=fun zz=>Ep_ s2 zz k) hp8_2 (Fk_ (by omega)) (Ep_.eq_1 _ _);refine gx T_ 11 ?_;subst e27;exact qr1
theorem U0_ (s1:List Mail) (s2:List Mail):Fn Tryz.prog gb 229 [.sl Mail.pc s1, .sl Mail.pc s2, .fn 192 [] []] (.bool (Kb_ s1 s2)):=by
  refine fC Tryz.func229 T_ Tryz.ntmps229 fun w N H hG=>?_;have s1_l:s1.length<=140737488355328:=w.1.1;have s2_l:s2.length<=140737488355328:=w.2.1.1;have e0:=Kb_.eq_1 s1 s2;generalize Kb_ s1 s2=z at e0 ⊢;refine gx T_ 15 ?_;refine cN e0 (fun p3 e4=>?_) (fun p6 e7=>?_)
  · refine gx T_ 7 ?_;subst e4;exact qr1
  refine gx T_ 11 ?_;refine loop (ι:=Nat) [1,2,15,16] [] (fun k=>[(17, .int .i64 (k:Int))]) (fun k=>[]) (fun k=>k<=s1.length/\z=Eq_ s2 (s1.drop k) k) (fun k=>s1.length-k) 0 ⟨rfl,trivial⟩ trivial ?_ ?_
  · exact⟨Nat.zero_le _,e7⟩
  rintro k ⟨hp8_1,hp8_2⟩;refine gx T_ 6 ?_;refine cn rfl (fun p10=>?_) fun p28=>?_
  · have e11:=Cc_ (f:=fun zz=>Eq_ s2 zz k) hp8_2 (Fj_ (by omega)) (Eq_.eq_2 _ _ _ _);have hc12:=getG (xs:=s1) (k:=k) (by omega);refine gx T_ 7 ?_;refine q1 (qidx T_ k rfl rfl rfl hc12 rfl rfl rfl rfl) rfl fun w13=>?_;have hc16:=getG (xs:=s2) (k:=k) (by omega);refine gm T_ 10 [0] fun B15=>?_;refine q1 (qidx T_ k rfl rfl rfl hc16 rfl rfl rfl rfl) rfl fun w17=>?_;refine gm T_ 10 [1] fun B19=>?_;refine call (Ov_ _ _) rfl rfl fun w20=>?_;refine gx T_ 3 ?_;refine cN e11 (fun p23 e24=>?_) (fun p26 e27=>?_)
    · refine gx T_ 11 ?_;subst e24;exact qr1
    refine gy T_ 7 ?_;refine next (k+1) rfl rfl ⟨rfl,trivial⟩ trivial ?_ ?_
    · (try simp only[]);omega
    exact⟨by (try simp only[]);omega,e27⟩
  have e29:=Cc_ (f:=fun zz=>Eq_ s2 zz k) hp8_2 (Fk_ (by omega)) (Eq_.eq_1 _ _);refine gx T_ 11 ?_;subst e29;exact qr1
theorem Tu_ (a:LineR) (b:LineR):Fn Tryz.prog gb 144 [.agg (LineR.pc a), .agg (LineR.pc b)] (.bool (Lu_ a b)):=by
  refine fC Tryz.func144 T_ Tryz.ntmps144 fun w N H hG=>?_;have a_items_l:a.items.length<=140737488355328:=w.1.1.1;have b_items_l:b.items.length<=140737488355328:=w.2.1.1.1;have e0:=Lu_.eq_1 a b;refine gm T_ 13 [0,1] fun B2=>?_;refine call (Uz_ _ _) rfl rfl fun w4=>?_;refine gx T_ 4 ?_;exact rt1 rfl rfl (S_ (fun r:Bool=> .bool r) e0 (ple rfl))
theorem Mx_ (a:RiseR) (b:RiseR):Fn Tryz.prog gb 145 [.agg (RiseR.pc a), .agg (RiseR.pc b)] (.bool (Hz_ a b)):=by
  refine fC Tryz.func145 T_ Tryz.ntmps145 fun w N H hG=>?_;have a_kept_l:a.kept.length<=140737488355328:=w.1.2.1.1;have b_kept_l:b.kept.length<=140737488355328:=w.2.1.2.1.1;have e0:=Hz_.eq_1 a b;refine gmy T_ 19 [0,1] fun B2=>?_;refine callg rfl (fun hc=>(U0_ _ _)) rfl ⟨(fun hc=>hc),(fun hc=>hc),trivial⟩ rfl rfl fun _=>?_;refine gy T_ 5 ?_;exact rt1 rfl rfl (S_ (fun r:Bool=> .bool r) e0 (ple rfl))
theorem Rs_ (a:Dk_) (b:Dk_):Fn Tryz.prog gb 72 [.agg (Dk_.pc a), .agg (Dk_.pc b)] (.bool (Kh_ a b)):=by
  refine fC Tryz.func72 T_ Tryz.ntmps72 fun w N H hG=>?_;have a_kept_l:a.kept.length<=140737488355328:=w.1.2.1.1;have b_kept_l:b.kept.length<=140737488355328:=w.2.1.2.1.1;have e0:=Kh_.eq_1 a b;refine gmy T_ 19 [0,1] fun B2=>?_;refine callg rfl (fun hc=>(eq_Note _ _)) rfl ⟨(fun hc=>hc),(fun hc=>hc),trivial⟩ rfl rfl fun _=>?_;refine gy T_ 5 ?_;exact rt1 rfl rfl (S_ (fun r:Bool=> .bool r) e0 (ple rfl))
theorem Rv_ (a:BookR) (b:BookR):Fn Tryz.prog gb 70 [.agg (BookR.pc a), .agg (BookR.pc b)] (.bool (Kj_ a b)):=by
  refine fC Tryz.func70 T_ Tryz.ntmps70 fun w N H hG=>?_;have a_shops_l:a.shops.length<=140737488355328:=w.1.1.1;have a_binds_l:a.binds.length<=140737488355328:=w.1.2.1.1;have b_shops_l:b.shops.length<=140737488355328:=w.2.1.1.1;have b_binds_l:b.binds.length<=140737488355328:=w.2.1.2.1.1;have e0:=Kj_.eq_1 a b;refine gm T_ 13 [0,1] fun B2=>?_;refine call (eq_Shop _ _) rfl rfl fun w4=>?_;refine gy T_ 5 ?_;refine callg rfl (fun hc=>(Uy_ _ _)) rfl ⟨(fun hc=>hc),(fun hc=>hc),trivial⟩ rfl rfl fun _=>?_;refine gy T_ 5 ?_;exact rt1 rfl rfl (S_ (fun r:Bool=> .bool r) e0 (ple rfl))
theorem Pk_ (x:RowR) (y:RowR):Fn Tryz.prog gb 143 [.agg (RowR.pc x), .agg (RowR.pc y)] (.bool (H2_ x y)):=by
  refine fC Tryz.func143 T_ Tryz.ntmps143 fun w N H hG=>?_;have x_l_items_l:x.l.items.length<=140737488355328:=w.1.2.2.2.2.1.1;have y_l_items_l:y.l.items.length<=140737488355328:=w.2.1.2.2.2.2.1.1;have e0:=H2_.eq_1 x y;refine gm T_ 13 [0,1] fun B2=>?_;refine q1 (saeq rfl rfl eqg60 (veq60 x.q y.q)) rfl fun w4=>?_;refine gy T_ 5 ?_;refine callg rfl (fun hc=>(Tu_ _ _)) rfl ⟨(fun hc=>hc),(fun hc=>hc),trivial⟩ rfl rfl fun _=>?_;refine gy T_ 5 ?_;exact rt1 rfl rfl (S_ (fun r:Bool=> .bool r) e0 (ple rfl))
theorem Xr_ (s1:List RowR) (s2:List RowR):Fn Tryz.prog gb 142 [.sl RowR.pc s1, .sl RowR.pc s2, .fn 143 [] []] (.bool (Mb_ s1 s2)):=by
  refine fC Tryz.func142 T_ Tryz.ntmps142 fun w N H hG=>?_;have s1_l:s1.length<=140737488355328:=w.1.1;have s2_l:s2.length<=140737488355328:=w.2.1.1;have e0:=Mb_.eq_1 s1 s2;generalize Mb_ s1 s2=z at e0 ⊢;refine gx T_ 15 ?_;refine cN e0 (fun p3 e4=>?_) (fun p6 e7=>?_)
  · refine gx T_ 7 ?_;subst e4;exact qr1
  refine gx T_ 11 ?_;refine loop (ι:=Nat) [1,2,15,16] [] (fun k=>[(17, .int .i64 (k:Int))]) (fun k=>[]) (fun k=>k<=s1.length/\z=Fb_ s2 (s1.drop k) k) (fun k=>s1.length-k) 0 ⟨rfl,trivial⟩ trivial ?_ ?_
  · exact⟨Nat.zero_le _,e7⟩
  rintro k ⟨hp8_1,hp8_2⟩;refine gx T_ 6 ?_;refine cn rfl (fun p10=>?_) fun p26=>?_
  · have e11:=Cc_ (f:=fun zz=>Fb_ s2 zz k) hp8_2 (Fj_ (by omega)) (Fb_.eq_2 _ _ _ _);have hc12:=getG (xs:=s1) (k:=k) (by omega);refine gx T_ 7 ?_;refine q1 (qidx T_ k rfl rfl rfl hc12 rfl rfl rfl rfl) rfl fun w13=>?_;have hc16:=getG (xs:=s2) (k:=k) (by omega);refine gm T_ 10 [0] fun B15=>?_;refine q1 (qidx T_ k rfl rfl rfl hc16 rfl rfl rfl rfl) rfl fun w17=>?_;refine gm T_ 10 [1] fun B19=>?_;refine call (Pk_ _ _) rfl rfl fun w20=>?_;refine gx T_ 3 ?_;refine cE e11 (fun h21 e23=>?_) (fun h21 e25=>?_)
    · have h22:=Cp_ h21;refine gx T_ 11 ?_;subst e23;exact qr1
    have h24:=Co_ h21;refine gy T_ 7 ?_;refine next (k+1) rfl rfl ⟨rfl,trivial⟩ trivial ?_ ?_
    · (try simp only[]);omega
    exact⟨by (try simp only[]);omega,e25⟩
  have e27:=Cc_ (f:=fun zz=>Fb_ s2 zz k) hp8_2 (Fk_ (by omega)) (Fb_.eq_1 _ _);refine gx T_ 11 ?_;subst e27;exact qr1
theorem Rz_ (a:D_) (b:D_):Fn Tryz.prog gb 71 [.agg (D_.pc a), .agg (D_.pc b)] (.bool (Hm_ a b)):=by
  refine fC Tryz.func71 T_ Tryz.ntmps71 fun w N H hG=>?_;have a_rows_l:a.rows.length<=140737488355328:=w.1.2.2.1.1;have b_rows_l:b.rows.length<=140737488355328:=w.2.1.2.2.1.1;have e0:=Hm_.eq_1 a b;generalize Hm_ a b=z at e0 ⊢;refine gmy T_ 27 [0,1] fun B2=>?_;refine callg rfl (fun hc=>(Xr_ _ _)) rfl ⟨(fun hc=>hc),(fun hc=>hc),trivial⟩ rfl rfl fun _=>?_;refine gy T_ 4 ?_;refine cE e0 (fun h4 e5=>?_) (fun h4 e15=>?_)
  · refine gx T_ 7 ?_;subst e5;exact qr1
  have h6:=orl h4;have h7:=orl h6;have h8:=Co_ h7;have p9:=dt h8;have h10:=orr h6;have h11:=Co_ h10;have p12:=dt h11;have h13:=orr h4;have h14:=Co_ h13;refine gx T_ 9 ?_;refine loop (ι:=Nat×Nat) [2,3] [0,1] (fun ⟨f,v⟩=>[(26, .int .i64 (v:Int))]) (fun ⟨f,v⟩=>[]) (fun ⟨f,v⟩=>16-v<f/\z=Fh_ a b f v) (fun ⟨f,v⟩=>f) ⟨(16-0+1),0⟩ ⟨rfl,trivial⟩ trivial ?_ ?_
  · exact⟨Nat.lt_succ_self _,e15⟩
  rintro⟨f,v⟩ ⟨hp16_1,hp16_2⟩;obtain⟨f1,rfl⟩:∃ q,f=q+1:=⟨f-1,by omega⟩;have e_f1:=hp16_2.trans (Fh_.eq_2 _ _ _ _);refine gx T_ 6 ?_;refine cD e_f1 (fun p18 e19=>?_) (fun p34 e35=>?_)
  · refine gx T_ 11 ?_;refine Hr_ (ι:=Unit) [2,3,26] [0,1] (fun _=>[(38, .bool (!(Hz_ (A16.get a.rises v) (A16.get b.rises v))))]) (fun _=>[]) (fun _=>PV.wf (.bool (Hz_ (A16.get a.rises v) (A16.get b.rises v)))) ?_ ?_
    · refine aN [2,3,4,5,6,7,8,9] 10 mixd ?_;refine gX T_ [0,1] 8 ?_;refine vq 2 (qaia v rfl rfl Tryz.underlying41 sz40 rfl (by omega)) rfl (by kernel_rfl) rfl fun w20=>?_;refine gX T_ [4,5] 5 ?_;refine vq 6 (qaia v rfl rfl Tryz.underlying41 sz40 rfl (by omega)) rfl (by kernel_rfl) rfl fun w21=>?_;refine veL 3 [7] (by kernel_rfl) ⟨⟨_,rfl,?_⟩,⟨_,rfl,?_⟩,trivial⟩
      · refine ej rfl (Jw_ (sz:=2) (len:=16) (fun q=>[.int .u64 ((A16.get a.rises q).total), .sl Mail.pc ((A16.get a.rises q).kept)]) v 3 2 0 T_ rfl rfl rfl rfl rfl rfl rfl (by omega) (bw16 rfl rfl rfl rfl rfl rfl rfl rfl rfl rfl rfl rfl rfl rfl rfl rfl) (bw16 rfl rfl rfl rfl rfl rfl rfl rfl rfl rfl rfl rfl rfl rfl rfl rfl) rfl fun w22=>?_);refine vE 7 rfl (Jw_ (sz:=2) (len:=16) (fun q=>[.int .u64 ((A16.get b.rises q).total), .sl Mail.pc ((A16.get b.rises q).kept)]) v 3 2 0 T_ rfl rfl rfl rfl rfl rfl rfl (by omega) (bw16 rfl rfl rfl rfl rfl rfl rfl rfl rfl rfl rfl rfl rfl rfl rfl rfl) (bw16 rfl rfl rfl rfl rfl rfl rfl rfl rfl rfl rfl rfl rfl rfl rfl rfl) rfl fun w23=>?_);refine vC 8 rfl (Mx_ (A16.get a.rises v) (A16.get b.rises v)) rfl fun w24=>?_;refine gX T_ [9] 0 ?_;refine vD ?_;refine nX () ?_ ⟨rfl,trivial⟩ trivial;exact w24
      refine ej rfl (Jw_ (sz:=2) (len:=16) (fun q=>[.int .u64 ((A16.get b.rises q).total), .sl Mail.pc ((A16.get b.rises q).kept)]) v 3 2 0 T_ rfl rfl rfl rfl rfl rfl rfl (by omega) (bw16 rfl rfl rfl rfl rfl rfl rfl rfl rfl rfl rfl rfl rfl rfl rfl rfl) (bw16 rfl rfl rfl rfl rfl rfl rfl rfl rfl rfl rfl rfl rfl rfl rfl rfl) rfl fun w25=>?_);refine vE 3 rfl (Jw_ (sz:=2) (len:=16) (fun q=>[.int .u64 ((A16.get a.rises q).total), .sl Mail.pc ((A16.get a.rises q).kept)]) v 3 2 0 T_ rfl rfl rfl rfl rfl rfl rfl (by omega) (bw16 rfl rfl rfl rfl rfl rfl rfl rfl rfl rfl rfl rfl rfl rfl rfl rfl) (bw16 rfl rfl rfl rfl rfl rfl rfl rfl rfl rfl rfl rfl rfl rfl rfl rfl) rfl fun w26=>?_);refine vC 8 rfl (Mx_ (A16.get a.rises v) (A16.get b.rises v)) rfl fun w27=>?_;refine gX T_ [9] 0 ?_;refine vD ?_;refine nX () ?_ ⟨rfl,trivial⟩ trivial;exact w27
    rintro _ w28;refine gx T_ 1 ?_;refine cE e19 (fun h29 e31=>?_) (fun h29 e33=>?_)
    · have h30:=Cp_ h29;refine gx T_ 11 ?_;subst e31;exact qr1
    have h32:=Co_ h29;refine gy T_ 7 ?_;refine next ⟨f1,(v+1)⟩ rfl rfl ⟨rfl,trivial⟩ trivial ?_ ?_
    · (try simp only[]);omega
    exact⟨by (try simp only[]);omega,e33⟩
  refine gx T_ 11 ?_;subst e35;exact qr1
theorem Sa_ (a:Ar_) (b:Ar_):Fn Tryz.prog gb 30 [.agg (Ar_.pc a), .agg (Ar_.pc b)] (.bool (Hn_ a b)):=by
  refine fC Tryz.func30 T_ Tryz.ntmps30 fun w N H hG=>?_;have a_book_shops_l:a.book.shops.length<=140737488355328:=w.1.1.1;have a_book_binds_l:a.book.binds.length<=140737488355328:=w.1.2.1.1;have a_stock_rows_l:a.stock.rows.length<=140737488355328:=w.1.2.2.2.2.1.1;have a_notes_kept_l:a.notes.kept.length<=140737488355328:=w.1.2.2.2.2.2.2.2.2.2.2.2.2.2.2.2.2.2.2.2.2.2.2.2.2.2.2.2.2.2.2.2.2.2.2.2.2.2.2.1.1;have b_book_shops_l:b.book.shops.length<=140737488355328:=w.2.1.1.1;have b_book_binds_l:b.book.binds.length<=140737488355328:=w.2.1.2.1.1;have b_stock_rows_l:b.stock.rows.length<=140737488355328:=w.2.1.2.2.2.2.1.1;have b_notes_kept_l:b.notes.kept.length<=140737488355328:=w.2.1.2.2.2.2.2.2.2.2.2.2.2.2.2.2.2.2.2.2.2.2.2.2.2.2.2.2.2.2.2.2.2.2.2.2.2.2.2.2.1.1;have e0:=Hn_.eq_1 a b;refine gm T_ 13 [0,1] fun B2=>?_;refine call (Rv_ _ _) rfl rfl fun w4=>?_;refine gy T_ 5 ?_;refine callg rfl (fun hc=>(Rz_ _ _)) rfl ⟨(fun hc=>hc),(fun hc=>hc),trivial⟩ rfl rfl fun _=>?_;refine gy T_ 6 ?_;refine callg rfl (fun hc=>(Rs_ _ _)) rfl ⟨(fun hc=>hc),(fun hc=>hc),trivial⟩ rfl rfl fun _=>?_;refine gy T_ 6 ?_;refine q1g [26,28] rfl (fun hc=>saeq rfl rfl eqg47 (veq47 a.seen b.seen)) ⟨(fun hc=>hc),(fun hc=>hc),trivial⟩ rfl rfl rfl fun _=>?_;refine gy T_ 6 ?_;refine q1g [33,35] rfl (fun hc=>saeq rfl rfl eqg50 (veq50 a.spent b.spent)) ⟨(fun hc=>hc),(fun hc=>hc),trivial⟩ rfl rfl rfl fun _=>?_;refine gy T_ 5 ?_;exact rt1 rfl rfl (S_ (fun r:Bool=> .bool r) e0 (ple rfl))
abbrev R33_:Ar_->PV:=fun r=> .agg (Ar_.pc r)
abbrev R37_:LineR->PV:=fun r=> .agg (LineR.pc r)
abbrev R38_:(List ItemR)->PV:=fun r=> .sl ItemR.pc r
abbrev R39_:(List QueueR)->PV:=fun r=> .sl QueueR.pc r
theorem ag47:Ag Tryz.prog 47 true:=fun w=>by kernel_rfl
theorem sz47:Sz Tryz.prog 47 16:=fun w=>by kernel_rfl
def tbv134:Tb:=[(3,ty3),(5,ty5),(9,ty9),(22,ty22),(26,ty26),(27,ty27),(36,ty36),(43,ty43),(47,ty47),(52,ty52),(54,ty54),(60,ty60),(65,ty65),(67,ty67),(75,ty75),(77,ty77),(94,ty94),(100,ty100),(109,ty109)]
theorem Ci_:tbB Tryz.prog tbv134=true:=by kernel_rfl
theorem l23_StoreHops_ok (p:PolicyR) (place:Int) (l:List DeedR):Fn Tryz.prog gb 7 [.agg (PolicyR.pc p), .int .u8 place, .sl DeedR.pc l] (.bool (F6_ p place l)):=by
  refine fC Tryz.func7 Ci_ Tryz.ntmps7 fun w N H hG=>?_;have p_work_r:-9223372036854775808<=p.work/\p.work<=9223372036854775807:=w.1.1;have p_give_r:-9223372036854775808<=p.give/\p.give<=9223372036854775807:=w.1.2.1;have p_places_l:p.places.length<=140737488355328:=w.1.2.2.1.1;have p_slots_l:p.slots.length<=140737488355328:=w.1.2.2.2.1.1;have p_grants_l:p.grants.length<=140737488355328:=w.1.2.2.2.2.1.1;have place_r:0<=place/\place<=255:=w.2.1;have l_l:l.length<=140737488355328:=w.2.2.1.1;have e0:=F6_.eq_1 p place l;generalize F6_ p place l=z at e0 ⊢;refine gm Ci_ 9 [0] fun B2=>?_;refine call Tp_ rfl rfl fun w3=>?_;refine gx Ci_ 3 ?_;refine cE e0 (fun h4 e6=>?_) (fun h4 e8=>?_)
  · have h5:=Cp_ h4;refine gx Ci_ 7 ?_;subst e6;exact qr1
  have h7:=Co_ h4;refine gx Ci_ 6 ?_;refine call (Xu_ _) rfl rfl fun w9=>?_;refine gx Ci_ 3 ?_;refine callg rfl (fun hc=>(To_ _)) rfl ⟨(fun hc=>hc),trivial⟩ rfl rfl fun _=>?_;refine gy Ci_ 4 ?_;refine cE e8 (fun h10 e11=>?_) (fun h10 e18=>?_)
  · refine gx Ci_ 7 ?_;subst e11;exact qr1
  have h12:=orl h10;have h13:=Co_ h12;have hb13:=Z8_ h13
  (try obtain⟨hb13a,hb13b⟩:=hb13)
  have h15:=orr h10;have h16:=Co_ h15;have hb16:=l23_ddl h16
  (try obtain⟨hb16a,hb16b⟩:=hb16)
  refine gx Ci_ 6 ?_;refine cV e18 R0_ (l23_At_ok _ _) rfl fun r hr19 e21 w20=>?_;have hA21:=at_r p place (by omega)
  (try rw[<- hr19] at hA21)
  refine gx Ci_ 7 ?_;refine cV e21 R21_ (M1_ _ _ (hp:=by first|assumption|exact W4_ (by decide +kernel)) (hk:=by first|omega|decide +kernel)) rfl fun r1 hr23 e25 w24=>?_;have hA25:=new_ok (p:=p) (k:=r) (by first|assumption|exact W4_ (by decide +kernel)) (by first|omega|(simp;done)|decide +kernel)
  (try rw[<- hr23] at hA25)
  refine gm Ci_ 13 [1] fun B28=>?_;refine loop (ι:=Nat×B_) [3,7,8,39,40] [0] (fun ⟨k,x⟩=>[(41, .int .i64 (k:Int))]) (fun ⟨k,x⟩=>[(1, .box (B28 0) 54 (B_.pc x))]) (fun ⟨k,x⟩=>k<=l.length/\z=Az_ p r (l.drop k) x/\StOk x) (fun ⟨k,x⟩=>l.length-k) ⟨0,r1⟩ ⟨rfl,trivial⟩ ⟨rfl,trivial⟩ ?_ ?_
  · exact⟨Nat.zero_le _,e25,by assumption⟩
  rintro⟨k,x⟩ ⟨hp29_1,hp29_2,hp29_3⟩;refine gx Ci_ 6 ?_;refine cnd rfl (fun h30=>?_) (fun h30=>?_)
  · have p31:=dt h30;have e32:=Cc_ (f:=fun zz=>Az_ p r zz x) hp29_2 (Fj_ (by omega)) (Az_.eq_2 _ _ _ _ _);refine gx Ci_ 3 ?_;obtain⟨o,e_o,q_o⟩:=Tz_ e32;refine Hr_ (ι:=B_) [3,7,8,39,40,41] [0] (fun x1=>[]) (fun x1=>[(1, .box (B28 0) 54 (B_.pc x1))]) (fun x1=>o = .fin x1/\StOk x1) ?_ ?_
    · have hc33:=getG (xs:=l) (k:=k) (by omega);have hy_hc33:=dd_mem (by assumption) hc33;have hx_hc33:=Sq_ (by first|exact w.1|exact w.2.1|exact w.2.2.1|exact w.2.2.2.1) hc33;have hf_hc33:=V7_ (by first|exact w.1|exact w.2.1|exact w.2.2.1|exact w.2.2.2.1) hc33;refine gx Ci_ 3 ?_;refine q1 (qidx Ci_ k rfl rfl rfl hc33 rfl rfl rfl rfl) rfl fun w34=>?_;refine gm Ci_ 8 [2] fun B36=>?_;refine cV e_o R33_ (Fo_ _) rfl fun r2 hr37 e39 w38=>?_;refine q1 (qfA rfl Tryz.underlying52 rfl ag47 sz47 rfl) rfl fun w40=>?_;refine gm Ci_ 8 [3] fun B42=>?_;refine cV e39 R22_ (Em_ _ _ (hd:=by first|assumption|exact dd1 (by decide +kernel)|exact⟨by first|(simp;done)|omega,by first|(simp;done)|omega,by first|(simp;done)|((try dsimp only);omega),by first|(simp;done)|((try dsimp only);omega)⟩)) rfl fun r3 hr43 e45 w44=>?_;have hA45:=Xq_ (s:=x) (d:=(gt l k)) (by assumption) (by first|assumption|exact dd1 (by decide +kernel)|exact⟨by first|(simp;done)|omega,by first|(simp;done)|omega,by first|(simp;done)|((try dsimp only);omega),by first|(simp;done)|((try dsimp only);omega)⟩) (by first|assumption|omega|(dsimp only;omega)|decide +kernel)
      (try rw[<- hr43] at hA45)
      refine gm Ci_ 14 [4,5] fun B48=>?_;refine cV e45 R33_ (Fo_ _) rfl fun r4 hr50 e52 w51=>?_;refine gm Ci_ 5 [6] fun B54=>?_;obtain⟨o1,e_o1,q_o1⟩:=Hv_ e52;refine Hr_ (ι:=Unit) [3,7,8,12,14,15,39,40,41] [0,1,2,3,4,5,6] (fun _=>[]) (fun _=>[]) (fun _=>o1 = .fin ()) ?_ ?_
      · refine gy Ci_ 13 ?_;refine cE e_o1 (fun h55 e60=>?_) (fun h55 e86=>?_)
        · have h56:=bl h55;have p57:=dt h56;have h58:=br h55;have p59:=dt h58;refine gx Ci_ 2 ?_;refine aN [7,8,9,10,11,12] 21 mixd ?_;refine gXy Ci_ [0,1,2,3,4,5,6] 14 ?_;refine vqg 7 [11,72] rfl (by kernel_rfl) rfl rfl (fun hc=>qaia ((gt l k).frm).toNat rfl rfl Tryz.underlying47 sz36 (by first|omega|(simp only[gOf,bl2] at *;omega)) (by first|omega|(simp only[gOf,bl2] at *;omega))) ⟨(fun hc=>hc),trivial⟩ rfl fun _=>?_;refine vE 8 rfl (efgL [73] rfl (fun hc=>lyS1 (len:=16) (fun q=> .int .u64 (A16.get r2.seen q)) (((gt l k).frm).toNat) 0 1 0 Ci_ rfl rfl rfl rfl rfl rfl (by first|omega|(simp only[gOf,bl2] at *;omega)) (fun _=>rfl) (bw16 rfl rfl rfl rfl rfl rfl rfl rfl rfl rfl rfl rfl rfl rfl rfl rfl)) ⟨(fun hc=>hc),trivial⟩ rfl rfl fun _=>?_);refine gXy Ci_ [9,10,11,12,13] 7 ?_;refine vqg 14 [78,79] rfl (by kernel_rfl) rfl rfl (fun hc=>qaia ((gt l k).frm).toNat rfl rfl Tryz.underlying47 sz36 (by first|omega|(simp only[gOf,bl2] at *;omega)) (by first|omega|(simp only[gOf,bl2] at *;omega))) ⟨(fun hc=>hc),(fun hc=>hc),trivial⟩ rfl fun _=>?_;refine gXy Ci_ [16,17] 4 ?_;refine vE 15 rfl (efgL [80] rfl (fun hc=>lyS1 (len:=16) (fun q=> .int .u64 (A16.get r4.seen q)) (((gt l k).frm).toNat) 39 1 0 Ci_ rfl rfl rfl rfl rfl rfl (by first|omega|(simp only[gOf,bl2] at *;omega)) (fun _=>rfl) (bw16 rfl rfl rfl rfl rfl rfl rfl rfl rfl rfl rfl rfl rfl rfl rfl rfl)) ⟨(fun hc=>hc),trivial⟩ rfl rfl fun _=>?_);refine gXy Ci_ [18,19,20] 0 ?_;refine vD ?_;refine gx Ci_ 1 ?_;refine cE e60 (fun h61 e65=>?_) (fun h61 e68=>?_)
          · have h62:=bl h61;have p63:=dt h62;have h64:=br h61;refine gx Ci_ 15 ?_;have e66:=Fl_ q_o1 e65;have e67:=Mk_ q_o e66;subst e67;exact qr1
          refine gx Ci_ 6 ?_;refine cV e68 R22_ (Em_ _ _ (hd:=by first|assumption|exact dd1 (by decide +kernel)|exact⟨by first|(simp;done)|omega,by first|(simp;done)|omega,by first|(simp;done)|((try dsimp only);omega),by first|(simp;done)|((try dsimp only);omega)⟩)) rfl fun r5 hr69 e71 w70=>?_;have hA71:=Xq_ (s:=r3.1) (d:=(gt l k)) (by assumption) (by first|assumption|exact dd1 (by decide +kernel)|exact⟨by first|(simp;done)|omega,by first|(simp;done)|omega,by first|(simp;done)|((try dsimp only);omega),by first|(simp;done)|((try dsimp only);omega)⟩) (by first|assumption|omega|(dsimp only;omega)|decide +kernel)
          (try rw[<- hr69] at hA71)
          refine gmy Ci_ 21 [7,8] fun B74=>?_;refine cE e71 (fun h76 e82=>?_) (fun h76 e85=>?_)
          · have h77:=bl h76;have p78:=dt h77;have h79:=br h76;have h80:=Cp_ h79;have p81:=df h80;refine gx Ci_ 14 ?_;have e83:=Fl_ q_o1 e82;have e84:=Mk_ q_o e83;subst e84;exact qr1
          refine gx Ci_ 1 ?_;refine nZ () ?_ trivial trivial;exact e85
        refine gx Ci_ 5 ?_;refine q1 (sane rfl rfl eqg47 (veq47 r4.seen r2.seen)) rfl fun w87=>?_;refine gx Ci_ 2 ?_;refine cN e86 (fun p90 e91=>?_) (fun p95 e96=>?_)
        · refine gx Ci_ 14 ?_;have e92:=Fl_ q_o1 e91;have e93:=Mk_ q_o e92;subst e93;exact qr1
        refine gx Ci_ 1 ?_;refine nZ () ?_ trivial trivial;exact e96
      rintro _ hp97;have e98:=K0_ q_o1 hp97;refine gx Ci_ 3 ?_;refine aN [7,8,9,10,11,12] 21 mixd ?_;refine gX Ci_ [0,1,2,3,4] 16 ?_;refine vE 5 rfl (ecallg rfl (fun hc=>(Fo_ x)) rfl ⟨(fun hc=>hc),trivial⟩ rfl rfl fun _=>?_);refine vcallg 6 rfl (by kernel_rfl) rfl (fun hc=>(Sa_ r4 (H_ x))) rfl rfl ⟨(fun hc=>hc),(fun hc=>hc),trivial⟩ rfl fun _=>?_;refine gXy Ci_ [7,8,9,10,11] 9 ?_;refine vcallg 12 rfl (by kernel_rfl) rfl (fun hc=>(F0_ r4.stock (hs:=by first|assumption|exact L2_ (by assumption) (by assumption)))) rfl rfl ⟨(fun hc=>hc),trivial⟩ rfl fun _=>?_;refine gXy Ci_ [13,14,15] 5 ?_;refine vqg 16 [118,119] rfl (by kernel_rfl) rfl rfl (fun hc=>qidx Ci_ (r).toNat rfl rfl (by first|omega|(simp only[gOf,bl2] at *;omega)) (getG (by first|omega|(simp only[gOf,bl2] at *;omega))) rfl rfl rfl rfl) ⟨(fun hc=>hc),(fun hc=>hc),trivial⟩ rfl fun _=>?_;refine gXy Ci_ [17,18,19,20] 0 ?_;refine vD ?_;refine gx Ci_ 1 ?_;refine cE e98 (fun h99 e100=>?_) (fun h99 e105=>?_)
      · refine gx Ci_ 13 ?_;have e101:=Mk_ q_o e100;subst e101;exact qr1
      have h102:=orl h99;have h103:=orr h99;have p104:=df h103;refine gx Ci_ 7 ?_;refine cV e105 R39_ (J1_ _ (hs:=by exact Nat.le_trans (L2_ (by assumption) (by assumption)).1.1 (by decide))) rfl fun r6 hr106 e108 w107=>?_;have hA108:=X9_ (s:=r4.stock) (by first|assumption|exact L2_ (by assumption) (by assumption))
      (try rw[<- hr106] at hA108)
      refine gx Ci_ 5 ?_;refine loop (ι:=Nat) [3,7,8,12,15,39,40,41,127,128] [0,1,2,3,4,5,6] (fun k1=>[(129, .int .i64 (k1:Int))]) (fun k1=>[]) (fun k1=>k1<=r6.length/\o=Bl_ r r3 r4 (r6.drop k1)) (fun k1=>r6.length-k1) 0 ⟨rfl,trivial⟩ trivial ?_ ?_
      · exact⟨Nat.zero_le _,e108⟩
      rintro k1 ⟨hp110_1,hp110_2⟩;refine gx Ci_ 6 ?_;refine cn rfl (fun p112=>?_) fun p145=>?_
      · have e113:=Cc_ (f:=fun zz=>Bl_ r r3 r4 zz) hp110_2 (Fj_ (by omega)) (Bl_.eq_2 _ _ _ _ _);refine gx Ci_ 3 ?_;obtain⟨o2,e_o2,q_o2⟩:=Hv_ e113;refine Hr_ (ι:=Unit) [3,7,8,12,15,39,40,41,127,128,129] [0,1,2,3,4,5,6] (fun _=>[]) (fun _=>[]) (fun _=>o2 = .fin ()) ?_ ?_
        · have hc114:=getG (xs:=r6) (k:=k1) (by omega);refine gx Ci_ 3 ?_;refine q1 (qidx Ci_ k1 rfl rfl rfl hc114 rfl rfl rfl rfl) rfl fun w115=>?_;refine gm Ci_ 11 [7] fun B117=>?_;refine cV e_o2 R37_ (La_ _ _) rfl fun r7 hr118 e120 w119=>?_;have hA120:=line_ok (s:=r4.stock) (n:=((gt r6 k1).name)) (by first|assumption|exact L2_ (by assumption) (by assumption))
          (try rw[<- hr118] at hA120)
          refine cV e120 R38_ (M4_ _) rfl fun r8 hr122 e124 w123=>?_;have hA124:=all_len (l:=r7) (by assumption)
          (try rw[<- hr122] at hA124)
          refine gx Ci_ 5 ?_;refine loop (ι:=Nat) [3,7,8,12,15,39,40,41,127,128,129,138,139] [0,1,2,3,4,5,6,7] (fun k2=>[(140, .int .i64 (k2:Int))]) (fun k2=>[]) (fun k2=>k2<=r8.length/\o2=B5_ (r8.drop k2)) (fun k2=>r8.length-k2) 0 ⟨rfl,trivial⟩ trivial ?_ ?_
          · exact⟨Nat.zero_le _,e124⟩
          rintro k2 ⟨hp126_1,hp126_2⟩;refine gx Ci_ 6 ?_;refine cn rfl (fun p128=>?_) fun p141=>?_
          · have e129:=Cc_ (f:=fun zz=>B5_ zz) hp126_2 (Fj_ (by omega)) (B5_.eq_2 _ _);have hc130:=getG (xs:=r8) (k:=k2) (by omega);refine gx Ci_ 6 ?_;refine q1 (qidx Ci_ k2 rfl rfl rfl hc130 rfl rfl rfl rfl) rfl fun w131=>?_;refine gm Ci_ 13 [8] fun B133=>?_;refine cD e129 (fun p135 e136=>?_) (fun p139 e140=>?_)
            · refine gx Ci_ 22 ?_;have e137:=Fl_ q_o2 e136;have e138:=Mk_ q_o e137;subst e138;exact qr1
            refine gy Ci_ 7 ?_;refine nY (k2+1) ⟨rfl,trivial⟩ trivial ?_ ?_
            · (try simp only[]);omega
            exact⟨by (try simp only[]);omega,e140⟩
          have e142:=Cc_ (f:=fun zz=>B5_ zz) hp126_2 (Fk_ (by omega)) (B5_.eq_1);refine gx Ci_ 5 ?_;refine nZ () ?_ trivial trivial;exact e142
        rintro _ hp143;have e144:=K0_ q_o2 hp143;refine gy Ci_ 5 ?_;refine nY (k1+1) ⟨rfl,trivial⟩ trivial ?_ ?_
        · (try simp only[]);omega
        exact⟨by (try simp only[]);omega,e144⟩
      have e146:=Cc_ (f:=fun zz=>Bl_ r r3 r4 zz) hp110_2 (Fk_ (by omega)) (Bl_.eq_1 _ _ _);refine gm Ci_ 10 [] fun _=>?_;refine nZ r3.1 ?_ trivial ⟨rfl,trivial⟩;exact⟨e146,by assumption⟩
    rintro x1 ⟨hp148,hp148_3⟩;have e149:=lp1_fin q_o hp148;refine gy Ci_ 5 ?_;refine nY ⟨(k+1),x1⟩ ⟨rfl,trivial⟩ ⟨rfl,trivial⟩ ?_ ?_
    · (try simp only[]);omega
    exact⟨by (try simp only[]);omega,e149,by assumption⟩
  have p150:=df h30;have e151:=Cc_ (f:=fun zz=>Az_ p r zz x) hp29_2 (Fk_ (by omega)) (Az_.eq_1 _ _ _);refine gx Ci_ 11 ?_;subst e151;exact qr1
end Go.SW.V
namespace Go.SW
def errD:DataW Unit->Bs
  | .iface _ (.ptr (.agg [.lit (.string b)]))=>b
  |_=>[]
def layE (pt low:Nat):Nat->List (Nat×DataW Unit)->Array Obj->Array Obj
  |_,[],h=>h
  | k,x::l,h=>layE pt low (k+1) l (h.modify x.1 fun
    | .cells _ t frozen=> .cells #[.iface pt (.pointer (some ⟨low+k,0,none⟩))] t frozen
    |o=>o)
noncomputable def laidWE (P:Program) (os:Os) (pt st:Nat) (l e:List (Nat×DataW Unit)):World:=
  let low:=(World.holding P os ⟨#[],#[],[]⟩).heap.size
  let w0:=World.holding P os ⟨(e.map fun x=>Obj.cells #[.string ⟨(errD x.2).toArray⟩] st).toArray,#[],[]⟩
  {w0 with heap:=layE pt low 0 e (List.foldl (fun h x=>h.modify x.1 (layD x.2)) w0.heap l)}
end Go.SW
namespace Go.SW.V
open Go.SW
def iz:List ItemR->Int
  |[]=>0
  |x::l=>Cl_ x.mail+iz l
def rz:List RowR->Int
  |[]=>0
  |x::l=>iz x.l.items+rz l
def uz (a:A16_RiseR):Nat->Int
  |0=>0
  |n+1=>Be_ (A16.get a (15-n))+uz a n
theorem T0_:∀ (t:List ItemR) (n:Int),An_ t n=n+iz t
  |[],n=>by simp[An_,iz]
  |x::t,n=>by
    unfold An_ lt
    dsimp only
    rw[T0_ t]
    simp only[iz];omega
theorem lsize_eq (l:LineR):Cr_ l=iz l.items:=by
  unfold Cr_
  rw[T0_];omega
theorem S7_ (s:D_):∀ (f:Nat) (n:Int) (k:Nat),k<=16->k<f->A8_ s f n (16-k)=n+uz s.rises k
  |0,n,k,_,h=>by omega
  |f+1,n,0,_,_=>by
    unfold A8_
    simp[uz]
  |f+1,n,k+1,h1,h2=>by
    unfold A8_ lt
    rw[decide_eq_true (show ((16-(k+1):Nat):Int)<16 by omega),cond_true]
    have :=S7_ s f (n+Be_ (A16.get s.rises (16-(k+1)))) k (by omega) (by omega)
    dsimp only
    rw[show 16-(k+1)+1=16-k by omega,this]
    simp only[uz]
    rw[show 16-(k+1)=15-k by omega]
    omega
theorem S6_ (s:D_):∀ (t:List RowR) (n:Int),Ac_ s t n=n+rz t+uz s.rises 16
  |[],n=>by
    unfold Ac_
    have :=S7_ s (16-0+1) n 16 (by omega) (by omega)
    rw[this];simp[rz]
  |x::t,n=>by
    unfold Ac_ lt
    dsimp only
    rw[S6_ s t,lsize_eq]
    simp only[rz];omega
theorem Rg_ (s:D_):Ae_ s=rz s.rows+uz s.rises 16:=by
  unfold Ae_
  rw[S6_];omega
theorem uz_far (a:A16_RiseR) (v:RiseR) (m:Nat) (hm:m<16):∀ k,k<=16->k<16-m->uz (A16.set a v m) k=uz a k
  |0,_,_=>rfl
  |k+1,h1,h2=>by
    simp only[uz]
    rw[uz_far a v m hm k (by omega) (by omega),A16.get_set _ _ _ _ hm (by omega),if_neg (by omega)]
theorem uz_set (a:A16_RiseR) (v:RiseR) (m:Nat) (hm:m<16):∀ k,k<=16->16-m<=k->uz (A16.set a v m) k=uz a k-Be_ (A16.get a m)+Be_ v
  |0,_,h=>by omega
  |k+1,h1,h2=>by
    simp only[uz]
    rw[A16.get_set _ _ _ _ hm (by omega)]
    by_cases q:15-k=m
    · subst q
      rw[if_pos rfl,uz_far a v (15-k) hm k (by omega) (by omega)];omega
    · rw[if_neg q,uz_set a v m hm k (by omega) (by omega)];omega
theorem Py_:∀ a b:List ItemR,iz (a++b)=iz a+iz b
  |[],b=>by simp[iz]
  |x::a,b=>by simp only[List.cons_append,iz,Py_ a b];omega
theorem Xd_:∀ a b:List RowR,rz (a++b)=rz a+rz b
  |[],b=>by simp[rz]
  |x::a,b=>by simp only[List.cons_append,rz,Xd_ a b];omega
theorem iz_nn:∀ l:List ItemR,0<=iz l
  |[]=>Int.le_refl _
  |x::l=>by
    have :=iz_nn l
    have :=(Mz_ x.mail).1
    simp only[iz];omega
theorem rz_set:∀ (l:List RowR) (k:Nat) (x:RowR),k<l.length->rz (l.set k x)=rz l-iz (gt l k).l.items+iz x.l.items
  |[],k,x,h=>by cases h
  |y::l,0,x,h=>by
    have e:gt (y::l) 0=y:=rfl
    simp only[List.set_cons_zero,rz,e];omega
  |y::l,k+1,x,h=>by
    have :=rz_set l k x (by simpa using h)
    have e:gt (y::l) (k+1)=gt l k:=by simp[gt]
    simp only[List.set_cons_succ,rz,e];omega
theorem rz_cut (l:List RowR) (k:Nat):rz (l.take k++l.drop (k+1))<=rz l:=by
  conv=>rhs;rw[<- List.take_append_drop k l]
  rw[Xd_,Xd_]
  cases e:l.drop k with
  |nil=>
    have :l.drop (k+1)=[]:=by
      rw[List.drop_eq_nil_iff] at e ⊢;omega
    rw[this];omega
  |cons x t=>
    have :l.drop (k+1)=t:=by
      have :=congrArg (List.drop 1) e
      simpa [List.drop_drop,Nat.add_comm] using this
    rw[this]
    have :=iz_nn x.l.items
    simp only[rz];omega
theorem Wi_:∀ (l:List ItemR) (k:Nat) (x:ItemR),x.mail=(gt l k).mail->iz (l.set k x)=iz l
  |[],k,x,_=>rfl
  |y::l,0,x,h=>by
    have e:gt (y::l) 0=y:=rfl
    rw[e] at h
    simp only[List.set_cons_zero,iz,h]
  |y::l,k+1,x,h=>by
    have e:gt (y::l) (k+1)=gt l k:=by simp[gt]
    rw[e] at h
    simp only[List.set_cons_succ,iz,Wi_ l k x h]
theorem iz_cut (l:List ItemR) (k:Nat):iz (l.take k++l.drop (k+1))<=iz l:=by
  conv=>rhs;rw[<- List.take_append_drop k l]
  rw[Py_,Py_]
  cases e:l.drop k with
  |nil=>
    have :l.drop (k+1)=[]:=by
      rw[List.drop_eq_nil_iff] at e ⊢;omega
    rw[this];omega
  |cons x t=>
    have :l.drop (k+1)=t:=by
      have :=congrArg (List.drop 1) e
      simpa [List.drop_drop,Nat.add_comm] using this
    rw[this]
    have :=(Mz_ x.mail).1
    simp only[iz];omega
theorem llend_iz (l:LineR):iz (Bs_ l).1.items=iz l.items:=by
  unfold Bs_ lt
  let Q:LineR×ItemR×Bool->Prop:=fun r=>iz r.1.items=iz l.items
  exact bt (P:=Q) (fun _=>rfl) fun _=>Wi_ _ _ _ rfl
theorem lrem_iz (l:LineR) (id:Int):iz (U_ l id).1.items<=iz l.items:=by
  unfold U_ lt
  let Q:LineR×ItemR×Int->Prop:=fun r=>iz r.1.items<=iz l.items
  refine bt (P:=Q) (fun _=>Int.le_refl _) fun e=>?_
  simp only[decide_eq_false_iff_not] at e
  have :(Bg_ l id+1).toNat=(Bg_ l id).toNat+1:=by omega
  show iz ([(l.items.take (Bg_ l id).toNat),(l.items.drop (Bg_ l id+1).toNat)].flatten)<=_
  rw[this]
  simp only[List.flatten_cons,List.flatten_nil,List.append_nil]
  exact iz_cut _ _
def KOk (b:Int) (k:D_):Prop:=k.bytes=b/\rz k.rows+uz k.rises 16<=b
theorem rz_set_le (l:List RowR) (k:Nat) (x:RowR) (h:iz x.l.items<=iz (gt l k).l.items):rz (l.set k x)<=rz l:=by
  by_cases q:k<l.length
  · rw[rz_set l k x q];omega
  · rw[List.set_eq_of_length_le (by omega)];exact Int.le_refl _
theorem Rh_ {b:Int} {s:D_} {k:Int} {l:LineR} (h:KOk b s) (hl:iz l.items<=iz (gt s.rows k.toNat).l.items):KOk b (Y_ s k l):=by
  refine⟨h.1,?_⟩
  have :=h.2
  have :=rz_set_le s.rows k.toNat ⟨(gt s.rows k.toNat).q,l⟩ hl
  show rz (s.rows.set _ _)+uz s.rises 16<=b
  omega
theorem kmake_k {b:Int} {s:D_} {q:QueueR} (h:KOk b s):KOk b (B7_ s q).1:=by
  unfold B7_ lt
  let Q:D_×Int->Prop:=fun r=>KOk b r.1
  refine bt (P:=Q) (fun _=>h) fun _=>bt (P:=Q) (fun _=>h) fun _=>bt (P:=Q) (fun _=>h) fun _=>bt (P:=Q) (fun _=>h) fun _=>⟨h.1,?_⟩
  show rz ([s.rows,[⟨q,⟨[]⟩⟩]].flatten)+_<=b
  simp only[List.flatten_cons,List.flatten_nil,List.append_nil,Xd_,rz,iz]
  have :=h.2
  show _+uz s.rises 16<=b
  omega
theorem Z1_ {b:Int} {s:D_} {n:Bs} (h:KOk b s):KOk b (Ch_ s n).1:=by
  unfold Ch_ lt
  let Q:D_×Int->Prop:=fun r=>KOk b r.1
  refine bt (P:=Q) (fun _=>h) fun e=>⟨h.1,?_⟩
  simp only[decide_eq_false_iff_not] at e
  have e1:(I_ s n+1).toNat=(I_ s n).toNat+1:=by omega
  show rz ([(s.rows.take (I_ s n).toNat),(s.rows.drop (I_ s n+1).toNat)].flatten)+uz s.rises 16<=b
  rw[e1]
  simp only[List.flatten_cons,List.flatten_nil,List.append_nil]
  have :=rz_cut s.rows (I_ s n).toNat
  have :=h.2
  omega
theorem klend_k {b:Int} {s:D_} {n:Bs} (h:KOk b s):KOk b (Bo_ s n).1:=by
  unfold Bo_ lt
  let Q:D_×ItemR×Bool->Prop:=fun r=>KOk b r.1
  exact bt (P:=Q) (fun _=>h) fun _=>Rh_ h (Int.le_of_eq (llend_iz _))
theorem Z3_ {b:Int} {s:D_} {n:Bs} {id:Int} (h:KOk b s):KOk b (X_ s n id).1:=by
  unfold X_ lt
  let Q:D_×ItemR×Int->Prop:=fun r=>KOk b r.1
  exact bt (P:=Q) (fun _=>h) fun _=>Rh_ h (lrem_iz _ _)
theorem Z0_ (l:List ItemR) (k:Nat) (a b c d:Bool):iz ((l.set k ⟨(gt l k).mail,a,b⟩).set k ⟨(gt (l.set k ⟨(gt l k).mail,a,b⟩) k).mail,c,d⟩)=iz l:=
  (Wi_ (l.set k ⟨(gt l k).mail,a,b⟩) k ⟨(gt (l.set k ⟨(gt l k).mail,a,b⟩) k).mail,c,d⟩ rfl).trans (Wi_ l k ⟨(gt l k).mail,a,b⟩ rfl)
theorem lback_iz (l:LineR) (id:Int):iz (Cq_ l id).1.items=iz l.items:=by
  unfold Cq_ lt
  let Q:LineR×Int->Prop:=fun r=>iz r.1.items=iz l.items
  refine bt (P:=Q) (fun _=>rfl) fun _=>bt (P:=Q) (fun _=>rfl) fun _=>?_
  exact Z0_ _ _ _ _ _ _
theorem Os_:∀ (t:List ItemR) (k:Nat) (x:LineR),iz (A0_ t k x).items=iz x.items
  |[],k,x=>rfl
  |y::t,k,x=>by
    unfold A0_
    let Q:LineR->Prop:=fun r=>iz r.items=iz x.items
    exact bt (P:=Q) (fun _=>(Os_ t _ _).trans (Z0_ _ _ _ _ _ _)) fun _=>Os_ t _ _
theorem lwake_iz (l:LineR):iz (Du_ l).items=iz l.items:=Os_ _ _ _
theorem kback_k {b:Int} {s:D_} {n:Bs} {id:Int} (h:KOk b s):KOk b (Cg_ s n id).1:=by
  unfold Cg_ lt
  let Q:D_×Int->Prop:=fun r=>KOk b r.1
  exact bt (P:=Q) (fun _=>h) fun _=>Rh_ h (Int.le_of_eq (lback_iz _ _))
theorem kraise_k {b:Int} {s:D_} {p:Int} {m:Mail} (h:KOk b s):KOk b (A1_ s p m).1:=by
  unfold A1_ lt
  let Q:D_×Int->Prop:=fun r=>KOk b r.1
  refine bt (P:=Q) (fun _=>h) fun e1=>?_
  simp only[Bool.or_eq_false_iff,decide_eq_false_iff_not] at e1
  refine bt (P:=Q) (fun _=>h) fun _=>bt (P:=Q) (fun _=>h) fun e=>⟨h.1,?_⟩
  simp only[decide_eq_false_iff_not] at e
  rw[Rg_] at e
  have h1:=h.1
  show rz s.rows+uz (A16.set s.rises _ p.toNat) 16<=b
  rw[uz_set _ _ _ (by omega) 16 (by omega) (by omega)]
  omega
theorem Wl_ {b:Int}:∀ (t:List RowR) (k:Nat) (x:D_),KOk b x->(∀ i,i<t.length->gt x.rows (k+i)=gt t i)->KOk b (Aw_ t k x)
  |[],k,x,h,_=>h
  |y::t,k,x,h,hr=>by
    unfold Aw_ lt
    have h0:gt x.rows k=y:=hr 0 (by simp)
    refine Wl_ t (k+1) _ (Rh_ h (by rw[lwake_iz];rw[Int.toNat_natCast,h0];exact Int.le_refl _)) fun i hi=>?_
    show gt (x.rows.set ((k:Int)).toNat _) (k+1+i)=_
    rw[Int.toNat_natCast]
    have :gt (x.rows.set k ⟨(gt x.rows k).q,Du_ y.l⟩) (k+1+i)=gt x.rows (k+1+i):=by
      simp only[gt,List.getD_eq_getElem?_getD]
      rw[List.getElem?_set_ne (by omega)]
    rw[this,show k+1+i=k+(i+1) by omega,hr (i+1) (by simp;omega)]
    simp[gt]
theorem kwake_k {b:Int} {s:D_} (h:KOk b s):KOk b (Ea_ s):=Wl_ s.rows 0 s h fun i _=>by rw[Nat.zero_add]
theorem lrem_eq {l:LineR} (h:LnOk l) {k:Nat} (hk:k<l.items.length):iz (U_ l (gt l.items k).mail.id).1.items+Cl_ (gt l.items k).mail=iz l.items:=by
  unfold U_ lt
  dsimp only
  rw[Rp_ h hk]
  have e:decide ((k:Int)<0)=false:=by simp
  rw[e,cond_false]
  show iz ([(l.items.take ((k:Int)).toNat),(l.items.drop ((k:Int)+1).toNat)].flatten)+_=_
  rw[show ((k:Int)+1).toNat=k+1 by omega,Int.toNat_natCast]
  simp only[List.flatten_cons,List.flatten_nil,List.append_nil]
  conv=>rhs;rw[<- List.take_append_drop k l.items]
  rw[Py_,Py_]
  have e2:l.items.drop k=gt l.items k::l.items.drop (k+1):=by
    rw[List.drop_eq_getElem_cons hk]
    simp[gt,hk]
  rw[e2]
  simp only[iz];omega
theorem ladd_iz {l:LineR} {m:Mail} (e:(Ba_ l m).2=0):iz (Ba_ l m).1.items=iz l.items+Cl_ m:=by
  revert e
  unfold Ba_ Dp_ lt
  dsimp only
  let Q:LineR×Int->Prop:=fun r=>r.2=0->iz r.1.items=iz l.items+Cl_ m
  refine bt (P:=Q) (fun e h=>?_) fun _ _=>?_
  · simp only[Bool.not_eq_true',decide_eq_false_iff_not] at e
    exact (e h).elim
  · show iz ([l.items,[A3_ ⟨m,false,false⟩]].flatten)=_
    simp only[List.flatten_cons,List.flatten_nil,List.append_nil,Py_,iz]
    rw[show (A3_ ⟨m,false,false⟩).mail=m from rfl];omega
theorem zsize:Cl_ ⟨0,[],[],[],[],0,0⟩=0:=by decide +kernel
theorem kput_k {b:Int} {s:D_} {n:Bs} {m:Mail} (hs:StkOk s) (h:KOk b s):KOk b (Am_ s n m).1:=by
  unfold Am_ lt
  let Q:D_×Int×Mail×Int->Prop:=fun r=>KOk b r.1
  refine bt (P:=Q) (fun _=>h) fun e=>?_
  refine bt (P:=Q) (fun _=>h) fun _=>?_
  refine bt (P:=Q) (fun _=>h) fun _=>?_
  simp only[decide_eq_false_iff_not] at e
  have hb:=at_b s n
  obtain⟨k,hk⟩:∃ k:Nat,I_ s n=k:=⟨_,(Int.toNat_of_nonneg (by omega)).symm⟩
  rw[hk] at hb ⊢
  simp only[Int.toNat_natCast]
  have hl:LnOk (gt s.rows k).l:=RwsOk.at hs.1 (getG (by omega))
  refine lp2E (P:=Q) (fun q=>iz q.1.items+Cl_ q.2=iz (gt s.rows k).l.items) ?_ fun x x1 hx=>?_
  · refine bt (P:=LoP _ _) (fun _=>?_) fun _=>by show iz (gt s.rows k).l.items+Cl_ ⟨0,[],[],[],[],0,0⟩=_;rw[zsize];omega
    refine bt (P:=LoP _ _) (fun _=>h) fun e2=>?_
    obtain⟨j,hj,he⟩:=Tr_ (l:=(gt s.rows k).l) (by simpa using e2)
    show iz _+Cl_ _=_
    rw[he]
    exact lrem_eq hl hj
  · refine bt (P:=Q) (fun _=>h) fun e3=>bt (P:=Q) (fun _=>h) fun e4=>⟨h.1,?_⟩
    simp only[decide_eq_false_iff_not] at e3
    have e4':(Ba_ x ⟨s.next,m.shop,m.key,m.head,m.body,m.due,m.hops⟩).2=0:=by simpa using e4
    have h4:=ladd_iz e4'
    unfold D9_ at e3
    rw[Rg_] at e3
    have h1:=h.1
    have hx':iz x.items+Cl_ x1=iz (gt s.rows k).l.items:=hx
    show rz (s.rows.set ((k:Int)).toNat _)+uz s.rises 16<=b
    rw[Int.toNat_natCast,rz_set _ _ _ (by omega)]
    dsimp only
    omega
end Go.SW.V
