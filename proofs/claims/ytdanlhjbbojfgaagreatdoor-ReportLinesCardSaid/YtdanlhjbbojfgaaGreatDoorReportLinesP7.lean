/-
  A part of the proof of ReportLines: The walks of this seat, printed by program: report.Note, report.teller.book, report.teller.stock.
-/
import Derived.Test.YtdanlhjbbojfgaaGreatDoorProg
import Derived.Test.YtdanlhjbbojfgaaGreatDoorReportLinesP4
import Derived.KernelRfl
import Derived.Test.YtdanlhjbbojfgaaGreatDoorReportLinesP6
import Derived.Test.YtdanlhjbbojfgaaGreatDoorReportLinesP3
set_option linter.unusedVariables false
set_option linter.unusedSimpArgs false
set_option maxRecDepth 100000
set_option maxHeartbeats 4000000
namespace Go.SW.V
open Go.SW Go.Proofs
abbrev R34_:(List ShopR)->PV:=fun r=> .sl ShopR.pc r
abbrev R35_:(List QueueR)->PV:=fun r=> .sl QueueR.pc r
abbrev R36_:LineR->PV:=fun r=> .agg (LineR.pc r)
abbrev R37_:RiseR->PV:=fun r=> .agg (RiseR.pc r)
theorem cb60:U_ Tryz.prog 60:=P_ Tryz.func60 (by kernel_rfl) (by kernel_rfl)
theorem cb61:U_ Tryz.prog 61:=P_ Tryz.func61 (by kernel_rfl) (by kernel_rfl)
def tbv142:Tb:=[(4,ty4),(5,ty5),(9,ty9),(22,ty22),(24,ty24),(35,ty35),(40,ty40),(41,ty41),(43,ty43),(45,ty45),(47,ty47),(50,ty50),(59,ty59),(64,ty64),(66,ty66),(67,ty67),(69,ty69),(106,Ns_),(187,ty187),(240,Wh_)]
theorem Cs_:tbB Tryz.prog tbv142=true:=by kernel_rfl
theorem Tw_ (n:NoteR) (hn:n.text.length<=1000000:=by first|omega|decide):Fn Tryz.prog gb 7 [.agg (NoteR.pc n)] (.str (Hc_ n)):=by
  refine fC Tryz.func7 Cs_ Tryz.ntmps7 fun w N H hG=>?_;have e0:=Hc_.eq_1 n;refine gm Cs_ 7 [0] fun B2=>?_;refine aN [1,2,3,4,5,6] 12 mixd ?_;refine gX Cs_ [0,1] 10 ?_;refine vC 2 rfl (F1_ _) rfl fun w3=>?_;have hB3:=I5_ n.tick;refine gX Cs_ [3,4] 7 ?_;refine vC 5 rfl (Tx_ _) rfl fun w5=>?_;have hB5:=rwhat_len n.kind;refine gX Cs_ [6,7] 4 ?_;refine vC 8 rfl (I4_ _) rfl fun w7=>?_;have hB7:=M2_ n.text;refine vE 9 rfl (bsl 1 strc [[110,111,116,101],(Aq_ n.tick),(Gh_ n.kind),(A5_ n.text)] Cs_ rfl rfl rfl rfl rfl (fun _=>rfl) rfl (by decide) (by decide) rfl fun u9=>?_);refine vE 10 rfl (calll 1 rfl (strings_Join _ _ (by first|omega|(simp only[joinB,List.length_append,List.length_cons,List.length_nil];omega))) rfl rfl rfl fun w10=>?_);refine gX Cs_ [11] 0 ?_;refine vD ?_;refine gx Cs_ 2 ?_;exact rt1 rfl rfl (J_ (fun r:Bs=> .str r) e0 (ple rfl))
theorem Tz_ (t:List Bs) (x:W_) (ht:t.length<=1000:=by omega) (hb:BkOk x.book/\BkB x.book:=by first|assumption|exact⟨hr.2.2.2.1.1,hr.2.2.2.2.1⟩):Fs Tryz.prog gb 60 [.agg (W_.pc x)] 149 1 9 strc t (Gk_ t x):=by
  refine fs_cw Cs_ Tryz.func60 rfl Tryz.ntmps60 rfl cb60 rfl fun w t_l b u0 N H hG=>?_;have hbb:=id hb;have hbk:=hbb.1;obtain⟨hb1,hb2,hb3⟩:=hbk;have e0:=Gk_.eq_1 t x;refine gm Cs_ 7 [2] fun B2=>?_;refine ef (bsl 3 strc [[100,105,114,101,99,116],[102,97,110,111,117,116],[116,111,112,105,99],[104,101,97,100,115],[114,101,108,101,97,115,101]] Cs_ rfl rfl rfl rfl rfl (fun _=>rfl) rfl (by decide) (by decide) rfl fun u3=>?_);refine gx Cs_ 8 ?_;refine cV e0 R34_ (Kn_ _) rfl fun r hr4 e6 w5=>?_;have hA6:=Re_ x.book
  (try rw[<- hr4] at hA6)
  have hA7:=congrArg List.length (Re_ x.book)
  (try rw[<- hr4] at hA7)
  refine gx Cs_ 5 ?_;refine loop (ι:=Nat×(List Bs)×Value) [0,3,4,14,15] [2,3] (fun ⟨k,l,u_l⟩=>[(16, .int .i64 (k:Int))]) (fun ⟨k,l,u_l⟩=>[(0, .box b 149 [.osl 1]),(1, .arr u_l 1 9 strc l)]) (fun ⟨k,l,u_l⟩=>k<=r.length/\Gk_ t x=Ch_ x (r.drop k) l/\l.length<=t.length+k) (fun ⟨k,l,u_l⟩=>r.length-k) ⟨0,t,(u0)⟩ ⟨rfl,trivial⟩ ⟨rfl,rfl,trivial⟩ ?_ ?_
  · exact⟨Nat.zero_le _,e6,(by first|omega|(simp;done)|(simp;omega))⟩
  rintro⟨k,l,u_l⟩ ⟨hp9_1,hp9_2,hp9_3⟩;refine gx Cs_ 6 ?_;refine cn rfl (fun p11=>?_) fun p27=>?_
  · have e12:=A7_ (f:=fun zz=>Ch_ x zz l) hp9_2 (Es_ (by omega)) (Ch_.eq_2 _ _ _ _);have hc13:=getG (xs:=r) (k:=k) (by first|omega|(simp only[List.length_cons,List.length_nil];omega));have hz_hc13:=hbb.2.1 (gt r k) (by have hm:=List.mem_of_getElem? hc13;first|exact hm|exact Eq.subst (motive:=fun l=>(gt r k)∈l) (show r=x.book.shops by assumption) hm);have hy_hc13:=shopE_f hz_hc13.1;have hs_hc13:=hz_hc13.2;refine gx Cs_ 6 ?_;refine q1 (qidx Cs_ k rfl rfl rfl hc13 rfl rfl rfl rfl) rfl fun w14=>?_;refine gm Cs_ 5 [4] fun B16=>?_;refine aN [0,1,5,6,7,8,9,10] 13 mixd ?_;refine gX Cs_ [0,1,2,3,4,5] 7 ?_;refine vq 6 (eidx ((gt r k).sort).toNat Cs_ rfl rfl rfl rfl rfl rfl rfl (by omega) (by first|omega|(simp only[List.length_cons,List.length_nil];omega))) rfl (by kernel_rfl) rfl fun w17=>?_;refine gX Cs_ [8,9] 4 ?_;refine vC 10 rfl (I4_ _) rfl fun w18=>?_;have hB18:=M2_ ((gt r k).to');have hc20:=getG (xs:=([[100,105,114,101,99,116],[102,97,110,111,117,116],[116,111,112,105,99],[104,101,97,100,115],[114,101,108,101,97,115,101]]:List Bs)) (k:=((gt r k).sort).toNat) (by first|omega|(simp only[List.length_cons,List.length_nil];omega));have hl_hc20:=(by decide +kernel:∀ z∈([[100,105,114,101,99,116],[102,97,110,111,117,116],[116,111,112,105,99],[104,101,97,100,115],[114,101,108,101,97,115,101]]:List Bs),z.length<=20) _ (List.mem_of_getElem? hc20);refine vE 7 rfl (elod1 (i:=3) (.str (gt [[100,105,114,101,99,116],[102,97,110,111,117,116],[116,111,112,105,99],[104,101,97,100,115],[114,101,108,101,97,115,101]] (((gt r k).sort).toNat))) (((gt r k).sort).toNat) 0 Cs_ rfl rfl rfl rfl hc20 rfl rfl rfl rfl fun w21=>?_);refine vE 11 rfl (bsl 5 strc [[115,104,111,112],(gt r k).name,(gt [[100,105,114,101,99,116],[102,97,110,111,117,116],[116,111,112,105,99],[104,101,97,100,115],[114,101,108,101,97,115,101]] (((gt r k).sort).toNat)),(A5_ ((gt r k).to'))] Cs_ rfl rfl rfl rfl rfl (fun _=>rfl) rfl (by decide) (by decide) rfl fun u22=>?_);refine ve2s 12 rfl (by kernel_rfl) rfl (T8_ 5 rfl (fcall (i:=0) (j:=1) (F3_ l [[115,104,111,112],(gt r k).name,(gt [[100,105,114,101,99,116],[102,97,110,111,117,116],[116,111,112,105,99],[104,101,97,100,115],[114,101,108,101,97,115,101]] (((gt r k).sort).toNat)),(A5_ ((gt r k).to'))] (hw:=(by simp only[joinB,List.length_append,List.length_cons,List.length_nil];omega))) rfl rfl rfl rfl rfl rfl rfl ?_));generalize hr23:A0_ l [[115,104,111,112],(gt r k).name,(gt [[100,105,114,101,99,116],[102,97,110,111,117,116],[116,111,112,105,99],[104,101,97,100,115],[114,101,108,101,97,115,101]] (((gt r k).sort).toNat)),(A5_ ((gt r k).to'))]=r1;intro u24;have e25:=e12.trans (Ei_ hr23.symm);have hA25:=Jr_ l [[115,104,111,112],(gt r k).name,(gt [[100,105,114,101,99,116],[102,97,110,111,117,116],[116,111,112,105,99],[104,101,97,100,115],[114,101,108,101,97,115,101]] (((gt r k).sort).toNat)),(A5_ ((gt r k).to'))]
    (try rw[<- hr23.symm] at hA25)
    refine vD ?_;refine gy Cs_ 6 ?_;refine next ⟨(k+1),r1,(u24)⟩ rfl rfl ⟨rfl,trivial⟩ ⟨rfl,rfl,trivial⟩ ?_ ?_
    · (try simp only[]);omega
    exact⟨by (try simp only[]);omega,e25,by omega⟩
  have e28:=A7_ (f:=fun zz=>Ch_ x zz l) hp9_2 (Et_ (by omega)) (Ch_.eq_1 _ _);refine gx Cs_ 9 ?_;refine cV e28 R8_ (Kl_ _) rfl fun r2 hr29 e31 w30=>?_;have hA31:=Lw_ x.book
  (try rw[<- hr29] at hA31)
  have hA32:=congrArg List.length (Lw_ x.book)
  (try rw[<- hr29] at hA32)
  refine gx Cs_ 5 ?_;refine loop (ι:=Nat×(List Bs)×Value) [0,36,37] [2,3] (fun ⟨k1,l1,u_l1⟩=>[(38, .int .i64 (k1:Int))]) (fun ⟨k1,l1,u_l1⟩=>[(0, .box b 149 [.osl 1]),(1, .arr u_l1 1 9 strc l1)]) (fun ⟨k1,l1,u_l1⟩=>k1<=r2.length/\Gk_ t x=C3_ (r2.drop k1) l1/\l1.length<=t.length+8+k1) (fun ⟨k1,l1,u_l1⟩=>r2.length-k1) ⟨0,l,(u_l)⟩ ⟨rfl,trivial⟩ ⟨rfl,rfl,trivial⟩ ?_ ?_
  · exact⟨Nat.zero_le _,e31,(by first|omega|(simp;done)|(simp;omega))⟩
  rintro⟨k1,l1,u_l1⟩ ⟨hp34_1,hp34_2,hp34_3⟩;refine gx Cs_ 6 ?_;refine cn rfl (fun p36=>?_) fun p61=>?_
  · have e37:=A7_ (f:=fun zz=>C3_ zz l1) hp34_2 (Es_ (by omega)) (C3_.eq_2 _ _ _);have hc38:=getG (xs:=r2) (k:=k1) (by first|omega|(simp only[List.length_cons,List.length_nil];omega));have hz_hc38:=hbb.2.2 (gt r2 k1) (by have hm:=List.mem_of_getElem? hc38;first|exact hm|exact Eq.subst (motive:=fun l=>(gt r2 k1)∈l) (show r2=x.book.binds by assumption) hm);have hy_hc38:=hz_hc38.1;have hx_hc38:=Kg_ hz_hc38.2.1;have hw_hc38:=hz_hc38.2.2.1;have hv_hc38:=Mj_ hz_hc38.2.2.2.1;refine gx Cs_ 6 ?_;refine q1 (qidx Cs_ k1 rfl rfl rfl hc38 rfl rfl rfl rfl) rfl fun w39=>?_;refine gm Cs_ 12 [4] fun B41=>?_;obtain⟨o,e_o,q_o⟩:=G6_ e37;refine Jn_ (ι:=Bs) [0,8,10,36,37,38] [0,1,2,3,4] (fun to_=>[(9, .str to_)]) (fun to_=>[]) (fun to_=>o=to_/\to_.length<=5) ?_ ?_
    · refine gx Cs_ 6 ?_;refine cE e_o (fun h42 e43=>?_) (fun h42 e44=>?_)
      · refine gx Cs_ 3 ?_;refine nX [117,112] ?_ ⟨rfl,trivial⟩ trivial;exact⟨e43,by decide⟩
      refine gx Cs_ 1 ?_;refine nX [113,117,101,117,101] ?_ ⟨rfl,trivial⟩ trivial;exact⟨e44,by decide⟩
    rintro to_ ⟨hp45,hp45_3⟩;have e46:=Ke_ q_o hp45;refine gx Cs_ 2 ?_;obtain⟨o1,e_o1,q_o1⟩:=G6_ e46;refine Jn_ (ι:=Bs) [0,8,9,36,37,38] [0,1,2,3,4] (fun all=>[(10, .str all)]) (fun all=>[]) (fun all=>o1=all/\all.length<=5) ?_ ?_
    · refine gx Cs_ 6 ?_;refine cE e_o1 (fun h47 e48=>?_) (fun h47 e49=>?_)
      · refine gx Cs_ 3 ?_;refine nX [97,108,108] ?_ ⟨rfl,trivial⟩ trivial;exact⟨e48,by decide⟩
      refine gx Cs_ 1 ?_;refine nX [97,110,121] ?_ ⟨rfl,trivial⟩ trivial;exact⟨e49,by decide⟩
    rintro all ⟨hp50,hp50_3⟩;have e51:=Ke_ q_o1 hp50;refine gx Cs_ 1 ?_;refine aN [0,1,5,6,7,8,9,10] 16 mixd ?_;refine gX Cs_ [0,1,2,3,4,5,6,7] 8 ?_;refine vC 8 rfl (I4_ _) rfl fun w52=>?_;have hB52:=M2_ ((gt r2 k1).key);refine gX Cs_ [9,10,11,12] 3 ?_;refine vC 13 rfl (Gu_ _) rfl fun w54=>?_;have hB54:=Gy_ (((gt r2 k1).want).length:Int);refine vE 14 rfl (bsl 5 strc [[98,105,110,100],(gt r2 k1).shop,(gt r2 k1).to',to_,(A5_ ((gt r2 k1).key)),all,itoB (((gt r2 k1).want).length:Int)] Cs_ rfl rfl rfl rfl rfl (fun _=>rfl) rfl (by decide) (by decide) rfl fun u56=>?_);refine ve2s 15 rfl (by kernel_rfl) rfl (T8_ 5 rfl (fcall (i:=0) (j:=1) (F3_ l1 [[98,105,110,100],(gt r2 k1).shop,(gt r2 k1).to',to_,(A5_ ((gt r2 k1).key)),all,itoB (((gt r2 k1).want).length:Int)] (hw:=(by simp only[joinB,List.length_append,List.length_cons,List.length_nil];omega))) rfl rfl rfl rfl rfl rfl rfl ?_));generalize hr57:A0_ l1 [[98,105,110,100],(gt r2 k1).shop,(gt r2 k1).to',to_,(A5_ ((gt r2 k1).key)),all,itoB (((gt r2 k1).want).length:Int)]=r3;intro u58;have e59:=e51.trans (Ei_ hr57.symm);have hA59:=Jr_ l1 [[98,105,110,100],(gt r2 k1).shop,(gt r2 k1).to',to_,(A5_ ((gt r2 k1).key)),all,itoB (((gt r2 k1).want).length:Int)]
    (try rw[<- hr57.symm] at hA59)
    refine vD ?_;refine gy Cs_ 6 ?_;refine next ⟨(k1+1),r3,(u58)⟩ rfl rfl ⟨rfl,trivial⟩ ⟨rfl,rfl,trivial⟩ ?_ ?_
    · (try simp only[]);omega
    exact⟨by (try simp only[]);omega,e59,by omega⟩
  have e62:=A7_ (f:=fun zz=>C3_ zz l1) hp34_2 (Et_ (by omega)) (C3_.eq_1 _);refine gx Cs_ 4 ?_;exact rsn e62 rfl rfl (ple rfl) rfl rfl
theorem To_ (t:List Bs) (p:PolicyR) (x:W_) (ht:t.length<=1000:=by omega) (hp:RpP p:=by first|assumption|exact⟨by omega,hr.2.2.1⟩) (hs:StkOk x.stock:=by first|assumption|exact hr.2.2.2.1.2.1) (hq:RoB x.stock:=by first|assumption|exact hr.2.2.2.2.2.1):Fs Tryz.prog gb 61 [.agg (PolicyR.pc p), .agg (W_.pc x)] 149 1 9 strc t (F4_ t p x):=by
  refine fs_cw Cs_ Tryz.func61 rfl Tryz.ntmps61 rfl cb61 rfl fun w t_l b u0 N H hG=>?_;have hql:=Nh_ hs;obtain⟨hpl,hpn⟩:=id hp;have e0:=F4_.eq_1 t p x;refine gm Cs_ 11 [2,3] fun B2=>?_;refine cV e0 R35_ (Jj_ _ (hs:=by exact Nat.le_trans hs.1.1 (by decide))) rfl fun r hr4 e6 w5=>?_;have hA6:=Nh_ (s:=x.stock) hs
  (try rw[<- hr4] at hA6)
  refine gx Cs_ 5 ?_;refine loop (ι:=Nat×(List Bs)×Value) [0,4,5,13,14] [2,3] (fun ⟨k,l,u_l⟩=>[(15, .int .i64 (k:Int))]) (fun ⟨k,l,u_l⟩=>[(0, .box b 149 [.osl 1]),(1, .arr u_l 1 9 strc l)]) (fun ⟨k,l,u_l⟩=>k<=r.length/\F4_ t p x=Cr_ p x (r.drop k) l/\l.length<=t.length+k) (fun ⟨k,l,u_l⟩=>r.length-k) ⟨0,t,(u0)⟩ ⟨rfl,trivial⟩ ⟨rfl,rfl,trivial⟩ ?_ ?_
  · exact⟨Nat.zero_le _,e6,(by first|omega|(simp;done)|(simp;omega))⟩
  rintro⟨k,l,u_l⟩ ⟨hp8_1,hp8_2,hp8_3⟩;refine gx Cs_ 6 ?_;refine cn rfl (fun p10=>?_) fun p42=>?_
  · have e11:=A7_ (f:=fun zz=>Cr_ p x zz l) hp8_2 (Es_ (by omega)) (Cr_.eq_2 _ _ _ _ _);have hc12:=getG (xs:=r) (k:=k) (by omega);have hz_hc12:=queues_f (q:=(gt r k)) hq (by have hm:=List.mem_of_getElem? hc12;first|exact hm|exact Eq.subst (motive:=fun l=>(gt r k)∈l) (show r=Ax_ x.stock by assumption) hm);refine gx Cs_ 6 ?_;refine q1 (qidx Cs_ k rfl rfl rfl hc12 rfl rfl rfl rfl) rfl fun w13=>?_;refine gm Cs_ 11 [4] fun B15=>?_;refine cV e11 R36_ (Kp_ _ _) rfl fun r1 hr16 e18 w17=>?_;have hA18:=P4_ (s:=x.stock) (n:=((gt r k).name)) hs
    (try rw[<- hr16] at hA18)
    have hA19:=(P4_ (s:=x.stock) (n:=((gt r k).name)) hs).1
    (try rw[<- hr16] at hA19)
    refine gm Cs_ 4 [5] fun B22=>?_;refine aN [0,1,6,7,8,9,10,11] 20 mixd ?_;refine gX Cs_ [0,1,2,3] 16 ?_;refine vC 4 rfl (Jp_ r1) rfl fun w23=>?_;have hB23:=llen_eq r1;refine vC 5 rfl (Gu_ _) rfl fun w25=>?_;have hB25:=Gy_ (Bp_ r1);refine gX Cs_ [6,7] 12 ?_;refine vC 8 rfl (F1_ _) rfl fun w27=>?_;have hB27:=I5_ ((gt r k).most);refine gX Cs_ [9] 10 ?_;refine vC 10 rfl (Jp_ r1) rfl fun w29=>?_;have hB29:=llen_eq r1;refine gX Cs_ [11] 8 ?_;refine vC 12 rfl (Oz_ r1) rfl fun w31=>?_;have hB31:=lrdy_b r1;refine gXy Cs_ [13] 6 ?_;refine vC 14 rfl (Gu_ _) rfl fun w33=>?_;have hB33:=Gy_ ((Bp_ r1)-(Bq_ r1));refine gX Cs_ [15,16] 3 ?_;refine vC 17 rfl (I4_ _) rfl fun w35=>?_;have hB35:=M2_ ((gt r k).dead);refine vE 18 rfl (bsl 6 strc [[113,117,101,117,101],(gt r k).name,itoB (Bp_ r1),(Aq_ ((gt r k).most)),itoB ((Bp_ r1)-(Bq_ r1)),(A5_ ((gt r k).dead))] Cs_ rfl rfl rfl rfl rfl (fun _=>rfl) rfl (by decide) (by decide) rfl fun u37=>?_);refine ve2s 19 rfl (by kernel_rfl) rfl (T8_ 6 rfl (fcall (i:=0) (j:=1) (F3_ l [[113,117,101,117,101],(gt r k).name,itoB (Bp_ r1),(Aq_ ((gt r k).most)),itoB ((Bp_ r1)-(Bq_ r1)),(A5_ ((gt r k).dead))] (hw:=(by simp only[joinB,List.length_append,List.length_cons,List.length_nil];omega))) rfl rfl rfl rfl rfl rfl rfl ?_));generalize hr38:A0_ l [[113,117,101,117,101],(gt r k).name,itoB (Bp_ r1),(Aq_ ((gt r k).most)),itoB ((Bp_ r1)-(Bq_ r1)),(A5_ ((gt r k).dead))]=r2;intro u39;have e40:=e18.trans (Ei_ hr38.symm);have hA40:=Jr_ l [[113,117,101,117,101],(gt r k).name,itoB (Bp_ r1),(Aq_ ((gt r k).most)),itoB ((Bp_ r1)-(Bq_ r1)),(A5_ ((gt r k).dead))]
    (try rw[<- hr38.symm] at hA40)
    refine vD ?_;refine gy Cs_ 6 ?_;refine next ⟨(k+1),r2,(u39)⟩ rfl rfl ⟨rfl,trivial⟩ ⟨rfl,rfl,trivial⟩ ?_ ?_
    · (try simp only[]);omega
    exact⟨by (try simp only[]);omega,e40,by omega⟩
  have e43:=A7_ (f:=fun zz=>Cr_ p x zz l) hp8_2 (Et_ (by omega)) (Cr_.eq_1 _ _ _);refine gx Cs_ 11 ?_;refine loop (ι:=Nat×Nat×(List Bs)×Value) [0,4,5] [2,3] (fun ⟨f,v,l1,u_l1⟩=>[(45, .int .i64 (v:Int))]) (fun ⟨f,v,l1,u_l1⟩=>[(0, .box b 149 [.osl 1]),(1, .arr u_l1 1 9 strc l1)]) (fun ⟨f,v,l1,u_l1⟩=>16-v<f/\F4_ t p x=Do_ p x f v l1/\v<=16/\l1.length<=t.length+8+v) (fun ⟨f,v,l1,u_l1⟩=>f) ⟨(16-0+1),0,l,(u_l)⟩ ⟨rfl,trivial⟩ ⟨rfl,rfl,trivial⟩ ?_ ?_
  · exact⟨Nat.lt_succ_self _,e43,⟨by omega,by omega⟩⟩
  rintro⟨f,v,l1,u_l1⟩ ⟨hp44_1,hp44_2,hp44_3⟩;obtain⟨f1,rfl⟩:∃ q,f=q+1:=⟨f-1,by omega⟩;have e_f1:=hp44_2.trans (Do_.eq_2 _ _ _ _ _);refine gx Cs_ 6 ?_;refine cD e_f1 (fun p46 e47=>?_) (fun p77 e78=>?_)
  · refine gx Cs_ 15 ?_;refine cV e47 R37_ (Kr_ _ _) rfl fun r3 hr48 e50 w49=>?_;have hA50:=Wa_ (s:=x.stock) (k:=(v:Int)) hs
    (try rw[<- hr48] at hA50)
    refine gm Cs_ 7 [4] fun B53=>?_;refine cV e50 R10_ (In_ _) rfl fun r4 hr54 e56 w55=>?_;refine gx Cs_ 3 ?_;refine cD e56 (fun p58 e59=>?_) (fun p75 e76=>?_)
    · refine aN [0,1,5,6,7,8,9,10] 13 mixd ?_;refine gX Cs_ [0,1,2] 10 ?_;refine vC 3 rfl (Kk_ p _) rfl fun w60=>?_;have hB60:=Qc_ p (v:Int) (by first|assumption|exact⟨hpl,by omega,hpn⟩);refine gX Cs_ [4] 8 ?_;refine vC 5 rfl (In_ r3) rfl fun w62=>?_;refine vC 6 rfl (F1_ _) rfl fun w63=>?_;have hB63:=I5_ (Cb_ r3);refine gX Cs_ [7] 5 ?_;refine vE 8 rfl (eC (Ma_ r3) rfl ?_);generalize hr66:Ea_ r3=r5;intro w65;have e67:=e59.trans (Ei_ hr66.symm);refine gX Cs_ [9] 3 ?_;refine vC 10 rfl (Gu_ _) rfl fun w68=>?_;have hB68:=Gy_ (r5.length:Int);refine vE 11 rfl (bsl 5 strc [[114,105,115,101],(Bs_ p (v:Int)),(Aq_ (Cb_ r3)),itoB (r5.length:Int)] Cs_ rfl rfl rfl rfl rfl (fun _=>rfl) rfl (by decide) (by decide) rfl fun u70=>?_);refine ve2s 12 rfl (by kernel_rfl) rfl (T8_ 5 rfl (fcall (i:=0) (j:=1) (F3_ l1 [[114,105,115,101],(Bs_ p (v:Int)),(Aq_ (Cb_ r3)),itoB (r5.length:Int)] (hw:=(by simp only[joinB,List.length_append,List.length_cons,List.length_nil];omega))) rfl rfl rfl rfl rfl rfl rfl ?_));generalize hr71:A0_ l1 [[114,105,115,101],(Bs_ p (v:Int)),(Aq_ (Cb_ r3)),itoB (r5.length:Int)]=r6;intro u72;have e73:=e67.trans (Ei_ hr71.symm);have hA73:=Jr_ l1 [[114,105,115,101],(Bs_ p (v:Int)),(Aq_ (Cb_ r3)),itoB (r5.length:Int)]
      (try rw[<- hr71.symm] at hA73)
      refine vD ?_;refine gy Cs_ 6 ?_;refine next ⟨f1,(v+1),r6,(u72)⟩ rfl rfl ⟨rfl,trivial⟩ ⟨rfl,rfl,trivial⟩ ?_ ?_
      · (try simp only[]);omega
      exact⟨by (try simp only[]);omega,e73,⟨by omega,by omega⟩⟩
    refine gy Cs_ 7 ?_;refine next ⟨f1,(v+1),l1,(u_l1)⟩ rfl rfl ⟨rfl,trivial⟩ ⟨rfl,rfl,trivial⟩ ?_ ?_
    · (try simp only[]);omega
    exact⟨by (try simp only[]);omega,e76,⟨by omega,by omega⟩⟩
  refine gx Cs_ 4 ?_;exact rsn e78 rfl rfl (ple rfl) rfl rfl
abbrev R38_:(List NoteR)->PV:=fun r=> .sl NoteR.pc r
abbrev ty149v143:TI:=⟨.agg [(0,1)],1,24,[.val (.slice none 0 0)]⟩
def tbv143:Tb:=[(3,ty3),(5,ty5),(9,ty9),(22,ty22),(24,ty24),(31,ty31),(33,ty33),(35,ty35),(50,ty50),(51,ty51),(53,ty53),(54,ty54),(56,ty56),(57,ty57),(59,ty59),(106,Ns_),(127,Tq_),(129,Oj_),(146,ty146),(149,ty149v143)]
theorem Dg_:tbB Tryz.prog tbv143=true:=by kernel_rfl
theorem Mz_ (p:PolicyR) (place:Int) (x:W_) (hr:RpOk p place x:=by assumption):Fn Tryz.prog gb 20 [.agg (PolicyR.pc p), .int .i64 place, .agg (W_.pc x)] (.sl strc (E1_ p place x)):=by
  refine fC Tryz.func20 Dg_ Tryz.ntmps20 fun w N H hG=>?_;have hn0:([]:List Bs).length=0:=rfl;obtain⟨hpo,hpc,hpn,hpr,hbb,hro,hno⟩:=id hr;have hpl:p.places.length<=100000:=by have :=hpo.2.1;omega
  obtain⟨hp1,hp2,hp3,hp4,hp5,hp6,hp7⟩:=id hpo;obtain⟨hx1,hx2,hx3,hx4⟩:=id hpr;have e0:=E1_.eq_1 p place x;have hc5:=getG (xs:=p.places) (k:=(place).toNat) (by omega);have hz_hc5:=hpn (gt p.places ((place).toNat)) (List.mem_of_getElem? hc5);refine gm Dg_ 17 [0,1,2] fun B2=>?_;refine q1 (qidx Dg_ (place).toNat rfl rfl (by omega) hc5 rfl rfl rfl rfl) rfl fun w6=>?_;refine gm Dg_ 6 [3] fun B8=>?_;refine Mh_ (i:=2) (o:=0) (k:=1) (e:=9) 4 strc rfl (by decide) rfl rfl ?_;refine aN [2,4,5,6,7,8,9,10] 14 mixd ?_;refine gX Dg_ [0,1,2,3] 10 ?_;refine vC 4 rfl (Sq_ ((gt p.places ((place).toNat)).label)) rfl fun w9=>?_;have hB9:=ltext_len ((gt p.places ((place).toNat)).label);refine gX Dg_ [5,6] 7 ?_;refine vC 7 rfl (Gi_ x.stock) rfl fun w11=>?_;have hB11:=Pw_ x.stock (by assumption);refine vC 8 rfl (Gu_ _) rfl fun w13=>?_;have hB13:=Gy_ (M_ x.stock);refine gX Dg_ [9,10] 3 ?_;refine vC 11 rfl (Gu_ _) rfl fun w15=>?_;have hB15:=Gy_ ((gt p.places ((place).toNat)).bytes);refine vE 12 rfl (bsl 5 strc [[112,108,97,99,101],(gt p.places ((place).toNat)).name,(Ec_ ((gt p.places ((place).toNat)).label)),itoB (M_ x.stock),itoB ((gt p.places ((place).toNat)).bytes)] Dg_ rfl rfl rfl rfl rfl (fun _=>rfl) rfl (by decide) (by decide) rfl fun u17=>?_);refine ve2s 13 rfl (by kernel_rfl) rfl (T8_ 5 rfl (fcall (i:=2) (j:=4) (F3_ [] [[112,108,97,99,101],(gt p.places ((place).toNat)).name,(Ec_ ((gt p.places ((place).toNat)).label)),itoB (M_ x.stock),itoB ((gt p.places ((place).toNat)).bytes)] (hw:=(by simp only[joinB,List.length_append,List.length_cons,List.length_nil];omega))) rfl rfl rfl rfl rfl rfl rfl ?_));generalize hr18:A0_ [] [[112,108,97,99,101],(gt p.places ((place).toNat)).name,(Ec_ ((gt p.places ((place).toNat)).label)),itoB (M_ x.stock),itoB ((gt p.places ((place).toNat)).bytes)]=r;intro u19;have e20:=e0.trans (Ei_ hr18.symm);have hA20:=Jr_ [] [[112,108,97,99,101],(gt p.places ((place).toNat)).name,(Ec_ ((gt p.places ((place).toNat)).label)),itoB (M_ x.stock),itoB ((gt p.places ((place).toNat)).bytes)]
  (try rw[<- hr18.symm] at hA20)
  refine vD ?_;refine gx Dg_ 4 ?_;refine ef2 (fcall (i:=2) (j:=4) (Tz_ r x) rfl rfl rfl rfl rfl rfl rfl ?_);generalize hr22:Gk_ r x=r1;intro u23;have e24:=e20.trans (Ei_ hr22.symm);have hA24:=tbook_len (t:=r) (x:=x) (by first|assumption|exact hr.2.2.2.1.1)
  (try rw[<- hr22.symm] at hA24)
  refine gx Dg_ 6 ?_;refine ef2 (fcall (i:=2) (j:=4) (To_ r1 p x) rfl rfl rfl rfl rfl rfl rfl ?_);generalize hr26:F4_ r1 p x=r2;intro u27;have e28:=e24.trans (Ei_ hr26.symm);have hA28:=tstock_len (t:=r1) (p:=p) (x:=x) (by first|assumption|exact hr.2.2.2.1.2.1)
  (try rw[<- hr26.symm] at hA28)
  refine gx Dg_ 11 ?_;refine loop (ι:=Nat×Nat×(List Bs)×Value) [1,3,5,6,7,40] [0,1,3] (fun ⟨f,v,l,u_l⟩=>[(41, .int .i64 (v:Int))]) (fun ⟨f,v,l,u_l⟩=>[(2, .box (B2 2) 149 [.osl 4]),(4, .arr u_l 1 9 strc l)]) (fun ⟨f,v,l,u_l⟩=>16-v<f/\E1_ p place x=Fd_ p place x f v l/\v<=16/\l.length<=100+v) (fun ⟨f,v,l,u_l⟩=>f) ⟨(16-0+1),0,r2,(u27)⟩ ⟨rfl,trivial⟩ ⟨rfl,rfl,trivial⟩ ?_ ?_
  · exact⟨Nat.lt_succ_self _,e28,⟨by omega,by omega⟩⟩
  rintro⟨f,v,l,u_l⟩ ⟨hp30_1,hp30_2,hp30_3⟩;obtain⟨f1,rfl⟩:∃ q,f=q+1:=⟨f-1,by omega⟩;have e_f1:=hp30_2.trans (Fd_.eq_2 _ _ _ _ _ _);refine gx Dg_ 6 ?_;refine cD e_f1 (fun p32 e33=>?_) (fun p53 e54=>?_)
  · refine gx Dg_ 7 ?_;refine q1 (qaiv1 (fun q=> .int .u64 (A16.get x.seen q)) v Dg_ rfl rfl Tryz.underlying54 rfl rfl rfl rfl (by omega) (fun _=>rfl) (bw16 rfl rfl rfl rfl rfl rfl rfl rfl rfl rfl rfl rfl rfl rfl rfl rfl)) rfl fun w34=>?_;refine gx Dg_ 10 ?_;refine cD e33 (fun p36 e37=>?_) (fun p51 e52=>?_)
    · refine gx Dg_ 3 ?_;refine cV e37 R33_ (Kk_ _ _) rfl fun r3 hr38 e40 w39=>?_;have hA40:=Qc_ p (v:Int) (by first|assumption|exact⟨hpl,by omega,hpn⟩)
      (try rw[<- hr38] at hA40)
      refine gx Dg_ 1 ?_;refine cV e40 R33_ (F1_ _) rfl fun r4 hr42 e44 w43=>?_;have hA44:=I5_ (A16.get x.seen v)
      (try rw[<- hr42] at hA44)
      refine ef (bsl 5 strc [[115,101,101,110],r3,r4] Dg_ rfl rfl rfl rfl rfl (fun _=>rfl) rfl (by decide) (by decide) rfl fun u46=>?_);refine give 5 rfl ?_;refine ef2 (fcall (i:=2) (j:=4) (F3_ l [[115,101,101,110],r3,r4] (hw:=(by simp only[joinB,List.length_append,List.length_cons,List.length_nil];omega))) rfl rfl rfl rfl rfl rfl rfl ?_);generalize hr47:A0_ l [[115,101,101,110],r3,r4]=r5;intro u48;have e49:=e44.trans (Ei_ hr47.symm);have hA49:=Jr_ l [[115,101,101,110],r3,r4]
      (try rw[<- hr47.symm] at hA49)
      refine gy Dg_ 7 ?_;refine next ⟨f1,(v+1),r5,(u48)⟩ rfl rfl ⟨rfl,trivial⟩ ⟨rfl,rfl,trivial⟩ ?_ ?_
      · (try simp only[]);omega
      exact⟨by (try simp only[]);omega,e49,⟨by omega,by omega⟩⟩
    refine gy Dg_ 7 ?_;refine next ⟨f1,(v+1),l,(u_l)⟩ rfl rfl ⟨rfl,trivial⟩ ⟨rfl,rfl,trivial⟩ ?_ ?_
    · (try simp only[]);omega
    exact⟨by (try simp only[]);omega,e52,⟨by omega,by omega⟩⟩
  refine gx Dg_ 14 ?_;refine loop (ι:=Nat×Nat×(List Bs)×Value) [1,3,5,6,7,56] [0,1,3] (fun ⟨f2,v1,l1,u_l1⟩=>[(57, .int .i64 (v1:Int))]) (fun ⟨f2,v1,l1,u_l1⟩=>[(2, .box (B2 2) 149 [.osl 4]),(4, .arr u_l1 1 9 strc l1)]) (fun ⟨f2,v1,l1,u_l1⟩=>8-v1<f2/\E1_ p place x=Fe_ p place x f2 v1 l1/\v1<=8/\l1.length<=200+v1) (fun ⟨f2,v1,l1,u_l1⟩=>f2) ⟨(8-0+1),0,l,(u_l)⟩ ⟨rfl,trivial⟩ ⟨rfl,rfl,trivial⟩ ?_ ?_
  · exact⟨Nat.lt_succ_self _,e54,⟨by omega,by omega⟩⟩
  rintro⟨f2,v1,l1,u_l1⟩ ⟨hp55_1,hp55_2,hp55_3⟩;obtain⟨f3,rfl⟩:∃ q,f2=q+1:=⟨f2-1,by omega⟩;have e_f3:=hp55_2.trans (Fe_.eq_2 _ _ _ _ _ _);refine gx Dg_ 6 ?_;refine cD e_f3 (fun p57 e58=>?_) (fun p85 e86=>?_)
  · refine gx Dg_ 7 ?_;refine q1 (qaivA (fun q=>[.int .u64 ((A8.get x.spent q).round), .int .i64 ((A8.get x.spent q).count)]) v1 Dg_ rfl rfl Tryz.underlying57 rfl rfl rfl rfl (by omega) (bw8 rfl rfl rfl rfl rfl rfl rfl rfl)) rfl fun w59=>?_;refine gmy Dg_ 21 [5] fun B61=>?_;refine q1g [73,74] rfl (fun hc=>qidx Dg_ v1 rfl rfl rfl (getG (by first|omega|(simp only[gOf,bl2] at *;omega))) rfl rfl rfl rfl) ⟨(fun hc=>hc),(fun hc=>hc),trivial⟩ rfl rfl rfl fun _=>?_;refine gy Dg_ 7 ?_;refine cE e58 (fun h62 e70=>?_) (fun h62 e84=>?_)
    · have h63:=bl h62;have h64:=bl h63;have p65:=dt h64;have h66:=br h63;have p67:=dt h66;have h68:=br h62;have p69:=dt h68;refine aN [2,4,6,7,8,9,10,11] 16 mixd ?_;refine gX Dg_ [0,1,2,3] 12 ?_;have hc71:=getG (xs:=p.grants) (k:=v1) (by omega);have hz_hc71:=hp6 (gt p.grants v1) (List.mem_of_getElem? hc71);refine vq 4 (qidx Dg_ v1 rfl rfl rfl hc71 rfl rfl rfl rfl) rfl (by kernel_rfl) rfl fun w72=>?_;refine gX Dg_ [5,6] 9 ?_;refine vC 7 rfl (Kk_ p _) rfl fun w73=>?_;have hB73:=Qc_ p ((gt p.grants v1).to') (by first|assumption|exact⟨hpl,by omega,hpn⟩);refine gX Dg_ [8,9] 6 ?_;refine vC 10 rfl (F1_ _) rfl fun w75=>?_;have hB75:=I5_ ((A8.get x.spent v1).round);refine gX Dg_ [11,12] 3 ?_;refine vC 13 rfl (Gu_ _) rfl fun w77=>?_;have hB77:=Gy_ ((A8.get x.spent v1).count);refine vE 14 rfl (bsl 6 strc [[115,112,101,110,116],(Bs_ p ((gt p.grants v1).to')),(Aq_ ((A8.get x.spent v1).round)),itoB ((A8.get x.spent v1).count)] Dg_ rfl rfl rfl rfl rfl (fun _=>rfl) rfl (by decide) (by decide) rfl fun u79=>?_);refine ve2s 15 rfl (by kernel_rfl) rfl (T8_ 6 rfl (fcall (i:=2) (j:=4) (F3_ l1 [[115,112,101,110,116],(Bs_ p ((gt p.grants v1).to')),(Aq_ ((A8.get x.spent v1).round)),itoB ((A8.get x.spent v1).count)] (hw:=(by simp only[joinB,List.length_append,List.length_cons,List.length_nil];omega))) rfl rfl rfl rfl rfl rfl rfl ?_));generalize hr80:A0_ l1 [[115,112,101,110,116],(Bs_ p ((gt p.grants v1).to')),(Aq_ ((A8.get x.spent v1).round)),itoB ((A8.get x.spent v1).count)]=r6;intro u81;have e82:=e70.trans (Ei_ hr80.symm);have hA82:=Jr_ l1 [[115,112,101,110,116],(Bs_ p ((gt p.grants v1).to')),(Aq_ ((A8.get x.spent v1).round)),itoB ((A8.get x.spent v1).count)]
      (try rw[<- hr80.symm] at hA82)
      refine vD ?_;refine gy Dg_ 6 ?_;refine next ⟨f3,(v1+1),r6,(u81)⟩ rfl rfl ⟨rfl,trivial⟩ ⟨rfl,rfl,trivial⟩ ?_ ?_
      · (try simp only[]);omega
      exact⟨by (try simp only[]);omega,e82,⟨by omega,by omega⟩⟩
    refine gy Dg_ 7 ?_;refine next ⟨f3,(v1+1),l1,(u_l1)⟩ rfl rfl ⟨rfl,trivial⟩ ⟨rfl,rfl,trivial⟩ ?_ ?_
    · (try simp only[]);omega
    exact⟨by (try simp only[]);omega,e84,⟨by omega,by omega⟩⟩
  refine gx Dg_ 9 ?_;refine cV e86 R10_ (Ho_ _) rfl fun r7 hr87 e89 w88=>?_;refine cV e89 R33_ (F1_ _) rfl fun r8 hr90 e92 w91=>?_;have hA92:=I5_ r7
  (try rw[<- hr90] at hA92)
  refine ef (bsl 5 strc [[110,111,116,101,115],r8] Dg_ rfl rfl rfl rfl rfl (fun _=>rfl) rfl (by decide) (by decide) rfl fun u94=>?_);refine give 5 rfl ?_;refine ef2 (fcall (i:=2) (j:=4) (F3_ l1 [[110,111,116,101,115],r8] (hw:=(by simp only[joinB,List.length_append,List.length_cons,List.length_nil];omega))) rfl rfl rfl rfl rfl rfl rfl ?_);generalize hr95:A0_ l1 [[110,111,116,101,115],r8]=r9;intro u96;have e97:=e92.trans (Ei_ hr95.symm);have hA97:=Jr_ l1 [[110,111,116,101,115],r8]
  (try rw[<- hr95.symm] at hA97)
  refine gx Dg_ 7 ?_;refine cV e97 R38_ (Im_ _ (hk:=by omega)) rfl fun r10 hr99 e101 w100=>?_;have hA101:=P7_ x.notes
  (try rw[<- hr99] at hA101)
  have hA102:=congrArg List.length (P7_ x.notes)
  (try rw[<- hr99] at hA102)
  refine gx Dg_ 5 ?_;refine loop (ι:=Nat×(List Bs)×Value) [6,7,106,107] [0,1,3] (fun ⟨k,l2,u_l2⟩=>[(108, .int .i64 (k:Int))]) (fun ⟨k,l2,u_l2⟩=>[(2, .box (B2 2) 149 [.osl 4]),(4, .arr u_l2 1 9 strc l2)]) (fun ⟨k,l2,u_l2⟩=>k<=r10.length/\E1_ p place x=Dm_ (r10.drop k) l2/\l2.length<=300+k) (fun ⟨k,l2,u_l2⟩=>r10.length-k) ⟨0,r9,(u96)⟩ ⟨rfl,trivial⟩ ⟨rfl,rfl,trivial⟩ ?_ ?_
  · exact⟨Nat.zero_le _,e101,by omega⟩
  rintro⟨k,l2,u_l2⟩ ⟨hp104_1,hp104_2,hp104_3⟩;refine gx Dg_ 6 ?_;refine cn rfl (fun p106=>?_) fun p115=>?_
  · have e107:=A7_ (f:=fun zz=>Dm_ zz l2) hp104_2 (Es_ (by omega)) (Dm_.eq_2 _ _ _);have hc108:=getG (xs:=r10) (k:=k) (by omega);have hz_hc108:=(hno (gt r10 k) (by have hm:=List.mem_of_getElem? hc108;first|exact hm|exact Eq.subst (motive:=fun l=>(gt r10 k)∈l) (show r10=x.notes.kept by assumption) hm)).1;refine gx Dg_ 6 ?_;refine q1 (qidx Dg_ k rfl rfl rfl hc108 rfl rfl rfl rfl) rfl fun w109=>?_;refine gm Dg_ 5 [5] fun B111=>?_;refine aN [4,6,7,8,9,10,11] 8 mixd ?_;refine gX Dg_ [0,1,2] 5 ?_;refine vC 3 rfl (Tw_ (gt r10 k)) rfl fun w112=>?_;refine vE 4 rfl (bsl 6 strc [(Hc_ (gt r10 k))] Dg_ rfl rfl rfl rfl rfl (fun _=>rfl) rfl (by decide) (by decide) rfl fun u113=>?_);refine vE 5 rfl (app Dg_ [(Hc_ (gt r10 k))] rfl rfl rfl rfl rfl rfl rfl rfl rfl (src_o rfl rfl) (by first|omega|(simp;omega)) rfl fun u114=>?_);refine gX Dg_ [6] 1 ?_;refine vT 7 rfl (H7_ Dg_ rfl rfl rfl rfl rfl rfl rfl rfl rfl ?_);refine vD ?_;refine gy Dg_ 6 ?_;refine next ⟨(k+1),(l2++[(Hc_ (gt r10 k))]),(u114)⟩ rfl rfl ⟨rfl,trivial⟩ ⟨rfl,rfl,trivial⟩ ?_ ?_
    · (try simp only[]);omega
    exact⟨by (try simp only[]);omega,e107,(by (try simp only[List.length_append,List.length_cons,List.length_nil]);omega)⟩
  have e116:=A7_ (f:=fun zz=>Dm_ zz l2) hp104_2 (Et_ (by omega)) (Dm_.eq_1 _);refine gx Dg_ 12 ?_;refine givec 4 rfl ?_;refine gx Dg_ 1 ?_;exact rt1 rfl rfl (J_ (fun r:(List Bs)=> .sl strc r) e116 (ple rfl))
theorem Tf_ (x:W_) (kind:Int) (text:Bs) (hk:x.notes.kept.length<=1000:=by omega):Fn Tryz.prog gb 22 [.agg (W_.pc x), .int .u8 kind, .str text] (.int .i64 (Id_ x kind text)):=by
  refine fC Tryz.func22 Dg_ Tryz.ntmps22 fun w N H hG=>?_;have e0:=Id_.eq_1 x kind text;refine gm Dg_ 16 [0] fun B2=>?_;refine cV e0 R38_ (Im_ _) rfl fun r hr3 e5 w4=>?_;have hA5:=P7_ x.notes
  (try rw[<- hr3] at hA5)
  have hA6:=congrArg List.length (P7_ x.notes)
  (try rw[<- hr3] at hA6)
  refine gx Dg_ 5 ?_;refine loop (ι:=Nat×Int) [1,2,6,12,13] [0] (fun ⟨k,n⟩=>[(14, .int .i64 (k:Int)),(7, .int .i64 n)]) (fun ⟨k,n⟩=>[]) (fun ⟨k,n⟩=>k<=r.length/\Id_ x kind text=C1_ kind text (r.drop k) n/\0<=n/\n<=k) (fun ⟨k,n⟩=>r.length-k) ⟨0,0⟩ ⟨rfl,rfl,trivial⟩ trivial ?_ ?_
  · exact⟨Nat.zero_le _,e5,⟨by omega,by omega⟩⟩
  rintro⟨k,n⟩ ⟨hp8_1,hp8_2,hp8_3⟩;refine gx Dg_ 6 ?_;refine cn rfl (fun p10=>?_) fun p23=>?_
  · have e11:=A7_ (f:=fun zz=>C1_ kind text zz n) hp8_2 (Es_ (by omega)) (C1_.eq_2 _ _ _ _ _);have hc12:=getG (xs:=r) (k:=k) (by omega);refine gx Dg_ 6 ?_;refine q1 (qidx Dg_ k rfl rfl rfl hc12 rfl rfl rfl rfl) rfl fun w13=>?_;refine gmy Dg_ 19 [1] fun B15=>?_;refine cE e11 (fun h16 e21=>?_) (fun h16 e22=>?_)
    · have h17:=bl h16;have p18:=dt h17;have h19:=br h16;have p20:=dt h19;refine gy Dg_ 11 ?_;refine next ⟨(k+1),(n+1)⟩ rfl rfl ⟨rfl,rfl,trivial⟩ trivial ?_ ?_
      · (try simp only[]);omega
      exact⟨by (try simp only[]);omega,e21,⟨by omega,by omega⟩⟩
    refine gy Dg_ 7 ?_;refine next ⟨(k+1),n⟩ rfl rfl ⟨rfl,rfl,trivial⟩ trivial ?_ ?_
    · (try simp only[]);omega
    exact⟨by (try simp only[]);omega,e22,⟨by omega,by omega⟩⟩
  have e24:=A7_ (f:=fun zz=>C1_ kind text zz n) hp8_2 (Et_ (by omega)) (C1_.eq_1 _ _ _);refine gx Dg_ 12 ?_;exact rt1 rfl rfl (J_ (fun r:Int=> .int .i64 r) e24 (ple rfl))
def tbv144:Tb:=[(3,ty3),(5,ty5),(9,ty9),(22,ty22)]
theorem Hp_:tbB Tryz.prog tbv144=true:=by kernel_rfl
theorem Xs_:Fn Tryz.prog gb 30 [] (.bool (Ml_)):=by
  refine fC Tryz.func30 Hp_ Tryz.ntmps30 fun w N H hG=>?_;have e0:=Ml_.eq_1;refine gx Hp_ 7 ?_;refine call Xu_ rfl rfl fun w1=>?_;refine gx Hp_ 4 ?_;exact rt1 rfl rfl (J_ (fun r:Bool=> .bool r) e0 (ple rfl))
theorem Hj_ (n:Int):Fn Tryz.prog gb 34 [.int .u64 n] (.str (decB n)):=by
  refine fC Tryz.func34 Hp_ Tryz.ntmps34 fun w N H hG=>?_;have n_r:0<=n/\n<=18446744073709551615:=w.1;refine gx Hp_ 12 ?_;refine cn rfl (fun p2=>?_) fun p4=>?_
  · have :=Kt_ (n+1);refine gx Hp_ 5 ?_;refine q1 (ssl Hp_ (n).toNat ((IntKind.wrap .u64 (n+1))).toNat rfl rfl rfl rfl rfl (by omega) (by omega) (by first|omega|(simp only[IntKind.wrap_u64,List.length_cons,List.length_nil];omega)) (by first|omega|(simp only[IntKind.wrap_u64,List.length_cons,List.length_nil];omega))) rfl fun w3=>?_;refine gx Hp_ 5 ?_;refine rt1 rfl rfl (ple ?_)
    first|exact dig_lo n_r.1 (by omega)|exact dig_hi (by omega) n_r.2
  refine gy Hp_ 6 ?_;refine call (Hj_ _) rfl rfl fun w5=>?_;have hB5:=De_ (n/10);refine gy Hp_ 2 ?_;refine call (Hj_ _) rfl rfl fun w7=>?_;have hB7:=De_ (n%10);refine go Hp_ 5 rfl rfl ⟨(by have :=De_ (n/10);have :=De_ (n%10);omega),trivial⟩ ?_;refine rt1 rfl rfl (ple ?_)
  first|exact dig_lo n_r.1 (by omega)|exact dig_hi (by omega) n_r.2
termination_by n.toNat
decreasing_by all_goals omega
theorem L5_ (s:Bs):Fn Tryz.prog gb 35 [.str s] (.str (Gg_ s)):=by
  refine fC Tryz.func35 Hp_ Tryz.ntmps35 fun w N H hG=>?_;have e0:=Gg_.eq_1 s;generalize Gg_ s=z at e0 ⊢;refine gx Hp_ 12 ?_;refine cD e0 (fun p2 e3=>?_) (fun p4 e5=>?_)
  · refine gx Hp_ 7 ?_;subst e3;exact qr1
  refine gx Hp_ 9 ?_;subst e5;exact qr1
theorem Hk_ (n:Int):Fn Tryz.prog gb 36 [.int .i64 n] (.str (Df_ n)):=by
  refine fC Tryz.func36 Hp_ Tryz.ntmps36 fun w N H hG=>?_;have e0:=Df_.eq_1 n;refine gx Hp_ 9 ?_;refine call (Hj_ _) rfl rfl fun w1=>?_;have hB1:=De_ (IntKind.wrap .u64 n);refine gx Hp_ 4 ?_;exact rt1 rfl rfl (J_ (fun r:Bs=> .str r) e0 (ple rfl))
theorem Z1_ (kind:Int):Fn Tryz.prog gb 10 [.int .u8 kind] (.str (K8_ kind)):=by
  refine fC Tryz.func10 Hp_ Tryz.ntmps10 fun w N H hG=>?_;have e0:=K8_.eq_1 kind;generalize K8_ kind=z at e0 ⊢;refine gx Hp_ 18 ?_;refine cD e0 (fun p2 e3=>?_) (fun p4 e5=>?_)
  · refine gx Hp_ 8 ?_;subst e3;exact qr1
  refine gx Hp_ 6 ?_;refine cD e5 (fun p7 e8=>?_) (fun p9 e10=>?_)
  · refine gx Hp_ 8 ?_;subst e8;exact qr1
  refine gx Hp_ 6 ?_;refine cD e10 (fun p12 e13=>?_) (fun p14 e15=>?_)
  · refine gx Hp_ 8 ?_;subst e13;exact qr1
  refine gx Hp_ 6 ?_;refine cD e15 (fun p17 e18=>?_) (fun p19 e20=>?_)
  · refine gx Hp_ 8 ?_;subst e18;exact qr1
  refine gx Hp_ 6 ?_;refine cD e20 (fun p22 e23=>?_) (fun p24 e25=>?_)
  · refine gx Hp_ 8 ?_;subst e23;exact qr1
  refine gx Hp_ 6 ?_;refine cD e25 (fun p27 e28=>?_) (fun p29 e30=>?_)
  · refine gx Hp_ 8 ?_;subst e28;exact qr1
  refine gx Hp_ 7 ?_;refine cV e30 R33_ (Hk_ _) rfl fun r hr31 e33 w32=>?_;refine gx Hp_ 4 ?_;subst e33;exact qr1
abbrev R39_:W_->PV:=fun r=> .agg (W_.pc r)
theorem cb28:U_ Tryz.prog 28:=P_ Tryz.func28 (by kernel_rfl) (by kernel_rfl)
abbrev ty28:TI:=⟨.agg [(0,1),(1,1),(2,1)],3,32,[.int .u64 0, .int .u8 0, .str []]⟩
def tbv145:Tb:=[(3,ty3),(5,ty5),(9,ty9),(22,ty22),(24,ty24),(28,ty28),(31,ty31),(32,ty32),(35,ty35),(106,Ns_),(129,Oj_)]
theorem Jt_:tbB Tryz.prog tbv145=true:=by kernel_rfl
theorem Xv_:Fn Tryz.prog gb 6 [] (.bool (Ox_)):=by
  refine fC Tryz.func6 Jt_ Tryz.ntmps6 fun w N H hG=>?_;have e0:=Ox_.eq_1;refine gx Jt_ 7 ?_;refine hinl [] Jt_ Tryz.func28 rfl Tryz.ntmps28 cb28 rfl rfl rfl rfl fun Hc1 hHc1=>?_;refine gm Jt_ 8 [0] fun B3=>?_;refine ef (bsl 1 PlaceR.pc [(⟨[108,111,119],(⟨0,0⟩:LabelR),500,1⟩:PlaceR)] Jt_ rfl rfl rfl rfl rfl (fun _=>rfl) rfl (by decide) (by decide) rfl fun u4=>?_);refine ef (bsl 2 i64c [0] Jt_ rfl rfl rfl rfl rfl (fun _=>rfl) rfl (by decide) (by decide) rfl fun u5=>?_);refine give 1 rfl ?_;refine give 2 rfl ?_;refine gm Jt_ 5 [] fun _=>?_;refine inlr rfl rfl rfl trivial ?_;refine hinl [] Jt_ Tryz.func28 rfl Tryz.ntmps28 cb28 rfl rfl rfl rfl fun Hc7 hHc7=>?_;refine gm Jt_ 8 [1] fun B9=>?_;refine ef (bsl 2 PlaceR.pc [(⟨[108,111,119],(⟨0,0⟩:LabelR),500,1⟩:PlaceR)] Jt_ rfl rfl rfl rfl rfl (fun _=>rfl) rfl (by decide) (by decide) rfl fun u10=>?_);refine ef (bsl 3 i64c [0] Jt_ rfl rfl rfl rfl rfl (fun _=>rfl) rfl (by decide) (by decide) rfl fun u11=>?_);refine give 2 rfl ?_;refine give 3 rfl ?_;refine gm Jt_ 5 [] fun _=>?_;refine inlr rfl rfl rfl trivial ?_;refine cV e0 R21_ (M4_ (⟨4,1,[(⟨[108,111,119],(⟨0,0⟩:LabelR),500,1⟩:PlaceR)],[0],[]⟩:PolicyR) _ (hp:=by first|assumption|exact S5_ (by decide +kernel)) (hk:=by first|omega|decide +kernel)) rfl fun r hr13 e15 w14=>?_;have hA15:=X8_ (p:=(⟨4,1,[(⟨[108,111,119],(⟨0,0⟩:LabelR),500,1⟩:PlaceR)],[0],[]⟩:PolicyR)) (k:=0) (by first|assumption|exact S5_ (by decide +kernel)) (by first|omega|(simp;done)|decide +kernel)
  (try rw[<- hr13] at hA15)
  refine cV e15 R39_ (Er_ _) rfl fun r1 hr17 e19 w18=>?_;refine cV e19 R26_ (Mz_ (⟨4,1,[(⟨[108,111,119],(⟨0,0⟩:LabelR),500,1⟩:PlaceR)],[0],[]⟩:PolicyR) _ _ (hr:=by exact rp_one (p:=(⟨4,1,[(⟨[108,111,119],(⟨0,0⟩:LabelR),500,1⟩:PlaceR)],[0],[]⟩:PolicyR)) (k:=0) (r:=r) (x:=r1) hr13 hr17 (S5_ (by decide +kernel)) (by decide +kernel) (by decide +kernel))) rfl fun r2 hr20 e22 w21=>?_;refine gx Jt_ 5 ?_;refine call Ql_ rfl rfl fun w23=>?_;refine gx Jt_ 1 ?_;refine callg rfl (fun hc=>Xs_) rfl trivial rfl rfl fun _=>?_;refine gy Jt_ 3 ?_;refine bcase (((Lk_)&&(Ml_))) (fun h24=>?_) (fun h24=>?_)
  · have h25:=bl h24;have h26:=br h24;have e27:=e22.trans (condT h24);refine so_rt (t:=10) (p':= .bool true) (ple (congrArg PV.bool h24)) rfl ?_;refine so_rt (t:=11) (p':= .bool true) (ple (congrArg PV.bool h24)) rfl ?_;refine so_rt (t:=12) (p':= .sl strc r2) (ple_gv (show gOf ((Lk_)&&(Ml_)) true=true by rw[h24];rfl)) rfl ?_;refine ungd rfl rfl ?_;refine ef (bsl 2 strc [[112,108,97,99,101,32,108,111,119,32,48,32,48,32,53,48,48],[110,111,116,101,115,32,48]] Jt_ rfl rfl rfl rfl rfl (fun _=>rfl) rfl (by decide) (by decide) rfl fun u28=>?_);refine ungd rfl rfl ?_;refine ef (calll 2 rfl (eq_Str _ _) rfl rfl rfl fun w29=>?_);refine gx Jt_ 5 ?_;exact rt1 rfl rfl (J_ (fun r:Bool=> .bool r) e27 (ple rfl))
  have e30:=e22.trans (condF h24);refine so_rt (t:=10) (p':= .bool false) (ple (congrArg PV.bool h24)) rfl ?_;refine so_rt (t:=11) (p':= .bool false) (ple (congrArg PV.bool h24)) rfl ?_;refine ungs rfl rfl rfl ?_;refine ungs rfl rfl rfl ?_;refine gx Jt_ 5 ?_;exact rt1 rfl rfl (J_ (fun r:Bool=> .bool r) e30 (ple rfl))
theorem Z0_ (n:NoteR) (hn:n.text.length<=1000000:=by omega):Fn Tryz.prog gb 8 [.agg (NoteR.pc n)] (.str (Pb_ n)):=by
  refine fC Tryz.func8 Jt_ Tryz.ntmps8 fun w N H hG=>?_;have e0:=Pb_.eq_1 n;refine gm Jt_ 7 [0] fun B2=>?_;refine aN [1,2,3,4,5,6] 15 mixd ?_;refine gX Jt_ [0,1] 13 ?_;refine vC 2 rfl (Hj_ _) rfl fun w3=>?_;have hB3:=De_ n.tick;refine gov Jt_ [3,4,5,6] 8 rfl (by kernel_rfl) rfl rfl ⟨(by (try simp only[List.length_append,List.length_cons,List.length_nil]);omega),(by (try simp only[List.length_append,List.length_cons,List.length_nil]);omega),trivial⟩ ?_;refine vC 7 rfl (Z1_ _) rfl fun w5=>?_;have hB5:=Z5_ n.kind;refine gov Jt_ [8,9,10,11] 3 rfl (by kernel_rfl) rfl rfl ⟨(by (try simp only[List.length_append,List.length_cons,List.length_nil]);omega),(by (try simp only[List.length_append,List.length_cons,List.length_nil]);omega),trivial⟩ ?_;refine vC 12 rfl (L5_ _) rfl fun w7=>?_;have hB7:=Kj_ n.text;refine gov Jt_ [13,14] 0 rfl (by kernel_rfl) rfl rfl ⟨(by (try simp only[List.length_append,List.length_cons,List.length_nil]);omega),trivial⟩ ?_;refine vD ?_;refine gx Jt_ 2 ?_;exact rt1 rfl rfl (J_ (fun r:Bs=> .str r) e0 (ple rfl))
abbrev R40_:(List ItemR)->PV:=fun r=> .sl ItemR.pc r
abbrev ty85:TI:=⟨.slc 250,1,24,[.sl ShopR.pc []]⟩
abbrev ty86:TI:=⟨.slc 251,1,24,[.sl BindR.pc []]⟩
abbrev ty88:TI:=⟨.agg [(0,1),(1,1)],2,48,[.val (.slice none 0 0), .val (.slice none 0 0)]⟩
abbrev ty91:TI:=⟨.agg [(0,1),(1,1)],2,32,[.int .u64 0, .sl Mail.pc []]⟩
abbrev ty95:TI:=⟨.slc 28,1,24,[.sl NoteR.pc []]⟩
abbrev ty97:TI:=⟨.agg [(0,1),(1,1)],2,32,[.int .u64 0, .val (.slice none 0 0)]⟩
abbrev ty161:TI:=⟨.slc 263,1,24,[.sl ItemR.pc []]⟩
abbrev ty250:TI:=⟨.agg [(0,1),(1,1),(2,1)],3,40,[.str [], .int .u8 0, .str []]⟩
abbrev ty263:TI:=⟨.agg [(0,7),(7,1),(8,1)],9,104,[.int .u64 0, .str [], .str [], .sl Pair.pc [], .str [], .int .u64 0, .int .u8 0, .bool false, .bool false]⟩
def tbv146:Tb:=[(4,ty4),(9,ty9),(24,ty24),(28,ty28),(40,ty40),(41,ty41),(43,ty43),(47,ty47),(51,ty51),(53,ty53),(64,ty64),(69,ty69),(71,ty71),(75,ty75),(81,ty81),(84,ty84),(85,ty85),(86,ty86),(88,ty88),(91,ty91),(95,ty95),(97,ty97),(144,ty144),(161,ty161),(238,ty238),(240,Wh_),(250,ty250),(251,ty251),(263,ty263)]
theorem Bo_:tbB Tryz.prog tbv146=true:=by kernel_rfl
theorem Ni_ (n:Int) (hn:0<=n:=by omega):Fn Tryz.prog gb 149 [.int .i64 n] (.str (decB n)):=by
  refine fC Tryz.func149 Bo_ Tryz.ntmps149 fun w N H hG=>?_;have n_r:-9223372036854775808<=n/\n<=9223372036854775807:=w.1;refine gx Bo_ 12 ?_;refine cn rfl (fun p2=>?_) fun p4=>?_
  · refine gy Bo_ 5 ?_;refine q1 (ssl Bo_ (n).toNat ((n+1)).toNat rfl rfl rfl rfl rfl (by omega) (by omega) (by first|omega|(simp only[IntKind.wrap_u64,List.length_cons,List.length_nil];omega)) (by first|omega|(simp only[IntKind.wrap_u64,List.length_cons,List.length_nil];omega))) rfl fun w3=>?_;refine gx Bo_ 5 ?_;refine rt1 rfl rfl (ple ?_)
    first|exact dig_lo3 hn (by omega)|exact dig_hi (by omega) (by omega)
  refine gy Bo_ 6 ?_;refine call (Ni_ _) rfl rfl fun w5=>?_;have hB5:=De_ (n/10);refine gy Bo_ 2 ?_;refine call (Ni_ _) rfl rfl fun w7=>?_;have hB7:=De_ (n%10);refine go Bo_ 5 rfl rfl ⟨(by have :=De_ (n/10);have :=De_ (n%10);omega),trivial⟩ ?_;refine rt1 rfl rfl (ple ?_)
  first|exact dig_lo3 hn (by omega)|exact dig_hi (by omega) (by omega)
termination_by n.toNat
decreasing_by all_goals omega
theorem Tc_ (m:Mail):Fn Tryz.prog gb 229 [.agg (Mail.pc m)] (.int .i64 (H3_ m)):=by
  refine fC Tryz.func229 Bo_ Tryz.ntmps229 fun w N H hG=>?_;have hkd:=Mail.kd3 w.1;have e0:=H3_.eq_1 m;generalize H3_ m=z at e0 ⊢;refine gm Bo_ 10 [0] fun B2=>?_;refine call (r13_Check _) rfl rfl fun w3=>?_;have :=Mq_ m;refine gx Bo_ 3 ?_;refine cN e0 (fun p6 e7=>?_) (fun p9 e10=>?_)
  · refine gx Bo_ 7 ?_;subst e7;exact qr1
  refine gx Bo_ 5 ?_;refine call (r13_Bytes _) rfl rfl fun w11=>?_;have :=mailB_len (m:=m) (by first|assumption|omega) (by assumption);refine gx Bo_ 5 ?_;subst e10;exact qr1
theorem Yj_ (l:List ItemR):Fn Tryz.prog gb 68 [.sl ItemR.pc l] (.int .i64 (Gr_ l)):=by
  refine fC Tryz.func68 Bo_ Tryz.ntmps68 fun w N H hG=>?_;have l_l:l.length<=140737488355328:=w.1.1;have e0:=Gr_.eq_1 l;refine gx Bo_ 19 ?_;refine loop (ι:=Nat×Int) [2,6,7] [] (fun ⟨k,n⟩=>[(8, .int .i64 (k:Int)),(3, .int .i64 n)]) (fun ⟨k,n⟩=>[]) (fun ⟨k,n⟩=>k<=l.length/\Gr_ l=Cy_ (l.drop k) n/\0<=n/\n<=k) (fun ⟨k,n⟩=>l.length-k) ⟨0,0⟩ ⟨rfl,rfl,trivial⟩ trivial ?_ ?_
  · exact⟨Nat.zero_le _,e0,⟨by omega,by omega⟩⟩
  rintro⟨k,n⟩ ⟨hp1_1,hp1_2,hp1_3⟩;refine gx Bo_ 6 ?_;refine cn rfl (fun p3=>?_) fun p14=>?_
  · have e4:=A7_ (f:=fun zz=>Cy_ zz n) hp1_2 (Es_ (by omega)) (Cy_.eq_2 _ _ _);have hc5:=getG (xs:=l) (k:=k) (by omega);refine gx Bo_ 6 ?_;refine q1 (qidx Bo_ k rfl rfl rfl hc5 rfl rfl rfl rfl) rfl fun w6=>?_;refine gm Bo_ 12 [0] fun B8=>?_;refine cE e4 (fun h9 e11=>?_) (fun h9 e13=>?_)
    · have h10:=Ds_ h9;refine gy Bo_ 11 ?_;refine next ⟨(k+1),(n+1)⟩ rfl rfl ⟨rfl,rfl,trivial⟩ trivial ?_ ?_
      · (try simp only[]);omega
      exact⟨by (try simp only[]);omega,e11,⟨by omega,by omega⟩⟩
    have h12:=D2_ h9;refine gy Bo_ 7 ?_;refine next ⟨(k+1),n⟩ rfl rfl ⟨rfl,rfl,trivial⟩ trivial ?_ ?_
    · (try simp only[]);omega
    exact⟨by (try simp only[]);omega,e13,⟨by omega,by omega⟩⟩
  have e15:=A7_ (f:=fun zz=>Cy_ zz n) hp1_2 (Et_ (by omega)) (Cy_.eq_1 _);refine gx Bo_ 12 ?_;exact rt1 rfl rfl (J_ (fun r:Int=> .int .i64 r) e15 (ple rfl))
theorem Mw_ (p:PolicyR) (k:Int) (hp:p.places.length<=100000/\0<=k/\∀ y∈p.places,y.name.length<=300:=by first|assumption|exact⟨hpl,by omega,hpn⟩):Fn Tryz.prog gb 69 [.agg (PolicyR.pc p), .int .i64 k] (.str (Eo_ p k)):=by
  refine fC Tryz.func69 Bo_ Tryz.ntmps69 fun w N H hG=>?_;have e0:=Eo_.eq_1 p k;generalize Eo_ p k=z at e0 ⊢;refine gm Bo_ 16 [0] fun B2=>?_;refine cD e0 (fun p4 e5=>?_) (fun p8 e9=>?_)
  · have hc6:=getG (xs:=p.places) (k:=(k).toNat) (by omega);refine gx Bo_ 5 ?_;refine q1 (qidx Bo_ (k).toNat rfl rfl (by omega) hc6 rfl rfl rfl rfl) rfl fun w7=>?_;refine gx Bo_ 7 ?_;subst e5;exact qr1
  refine gx Bo_ 5 ?_;refine cV e9 R33_ (Hk_ _) rfl fun r hr10 e12 w11=>?_;refine gx Bo_ 4 ?_;subst e12;exact qr1
theorem l18_Of_ok (l:LineR) (hl:LnOk l:=by first|assumption|exact P4_ (by assumption)):Fn Tryz.prog gb 137 [.agg (LineR.pc l)] (.sl ItemR.pc (Qm_ l)):=by
  refine fC Tryz.func137 Bo_ Tryz.ntmps137 fun w N H hG=>?_;have e0:=Qm_.eq_1 l;refine gm Bo_ 15 [0] fun B2=>?_;refine cV e0 R40_ (Qx_ _) rfl fun r hr3 e5 w4=>?_;have hA5:=all_len (l:=l) hl
  (try rw[<- hr3] at hA5)
  refine gx Bo_ 5 ?_;refine sw_own (t:=3) (k:=9) (e:=263) 1 ItemR.pc rfl rfl ?_;refine loop (ι:=Nat×(List ItemR)×Value) [2,7,8] [0] (fun ⟨k,out,u_out⟩=>[(9, .int .i64 (k:Int)),(3, .osl 1)]) (fun ⟨k,out,u_out⟩=>[(1, .arr u_out 9 263 ItemR.pc out)]) (fun ⟨k,out,u_out⟩=>k<=r.length/\Qm_ l=Hv_ (r.drop k) out/\out.length<=k) (fun ⟨k,out,u_out⟩=>r.length-k) ⟨0,[],(.slice none 0 0)⟩ ⟨rfl,rfl,trivial⟩ ⟨rfl,trivial⟩ ?_ ?_
  · exact⟨Nat.zero_le _,e5,(by first|omega|(simp;done)|(simp;omega))⟩
  rintro⟨k,out,u_out⟩ ⟨hp7_1,hp7_2,hp7_3⟩;refine gx Bo_ 6 ?_;refine cn rfl (fun p9=>?_) fun p17=>?_
  · have e10:=A7_ (f:=fun zz=>Hv_ zz out) hp7_2 (Es_ (by omega)) (Hv_.eq_2 _ _ _);have hc11:=getG (xs:=r) (k:=k) (by omega);refine gx Bo_ 6 ?_;refine q1 (qidx Bo_ k rfl rfl rfl hc11 rfl rfl rfl rfl) rfl fun w12=>?_;refine gm Bo_ 8 [2] fun B14=>?_;refine ef (bsl 3 ItemR.pc [(gt r k)] Bo_ rfl rfl rfl rfl rfl (fun _=>rfl) rfl (by decide) (by decide) rfl fun u15=>?_);refine ef (app Bo_ [(gt r k)] rfl rfl rfl rfl rfl rfl rfl rfl rfl (src_o rfl rfl) (by first|omega|(simp;omega)) rfl fun u16=>?_);refine gy Bo_ 8 ?_;refine next ⟨(k+1),(out++[(gt r k)]),(u16)⟩ rfl rfl ⟨rfl,rfl,trivial⟩ ⟨rfl,trivial⟩ ?_ ?_
    · (try simp only[]);omega
    exact⟨by (try simp only[]);omega,e10,(by (try simp only[List.length_append,List.length_cons,List.length_nil]);omega)⟩
  have e18:=A7_ (f:=fun zz=>Hv_ zz out) hp7_2 (Et_ (by omega)) (Hv_.eq_1 _);refine gx Bo_ 11 ?_;refine givec 1 rfl ?_;refine gx Bo_ 1 ?_;exact rt1 rfl rfl (J_ (fun r:(List ItemR)=> .sl ItemR.pc r) e18 (ple rfl))
theorem l20_Of_ok (x:RiseR) (hx:RiOk x:=by first|assumption|exact Wa_ (by assumption)):Fn Tryz.prog gb 139 [.agg (RiseR.pc x)] (.agg (RiseR.pc (Sm_ x))):=by
  refine fC Tryz.func139 Bo_ Tryz.ntmps139 fun w N H hG=>?_;have e0:=Sm_.eq_1 x;refine gm Bo_ 7 [0,1] fun B2=>?_;refine aN [1,2,3,4,5,6,7] 6 mixd ?_;refine gX Bo_ [0] 5 ?_;refine vC 1 rfl (In_ _) rfl fun w4=>?_;refine gX Bo_ [2] 3 ?_;refine vE 3 rfl (eC (Ma_ _) rfl ?_);generalize hr6:Ea_ x=r;intro w5;have e7:=e0.trans (Ei_ hr6.symm);refine gX Bo_ [4] 1 ?_;refine vT 5 rfl (sA Bo_ ?_);refine vD ?_;refine gx Bo_ 2 ?_;exact rt1 rfl rfl (J_ (fun r:RiseR=> .agg (RiseR.pc r)) e7 (ple rfl))
theorem Os_ (n:B7_) (hk:n.kept.length<=1000:=by first|omega|(simp<;>omega)):Fn Tryz.prog gb 55 [.agg (B7_.pc n)] (.agg (B7_.pc (Or_ n))):=by
  refine fC Tryz.func55 Bo_ Tryz.ntmps55 fun w N H hG=>?_;have e0:=Or_.eq_1 n;refine gm Bo_ 9 [0,1] fun B2=>?_;refine cV e0 R10_ (Ho_ _) rfl fun r hr4 e6 w5=>?_;refine gm Bo_ 9 [2] fun B8=>?_;refine cV e6 R38_ (Im_ _) rfl fun r1 hr9 e11 w10=>?_;have hA11:=P7_ n
  (try rw[<- hr9] at hA11)
  have hA12:=congrArg List.length (P7_ n)
  (try rw[<- hr9] at hA12)
  refine gx Bo_ 5 ?_;refine Mh_ (i:=2) (o:=1) (k:=3) (e:=28) 3 NoteR.pc rfl (by decide) rfl rfl ?_;refine loop (ι:=Nat×Int×(List NoteR)×Value) [2,3,10,11] [0,1] (fun ⟨k,total,kept,u_kept⟩=>[(12, .int .i64 (k:Int))]) (fun ⟨k,total,kept,u_kept⟩=>[(2, .box (B8 0) 97 [.int .u64 total, .osl 3]),(3, .arr u_kept 3 28 NoteR.pc kept)]) (fun ⟨k,total,kept,u_kept⟩=>k<=r1.length/\Or_ n=Hw_ (r1.drop k) total kept/\kept.length<=k) (fun ⟨k,total,kept,u_kept⟩=>r1.length-k) ⟨0,r,[],(.slice none 0 0)⟩ ⟨rfl,trivial⟩ ⟨rfl,rfl,trivial⟩ ?_ ?_
  · exact⟨Nat.zero_le _,e11,(by first|omega|(simp;done)|(simp;omega))⟩
  rintro⟨k,total,kept,u_kept⟩ ⟨hp14_1,hp14_2,hp14_3⟩;refine gx Bo_ 6 ?_;refine cn rfl (fun p16=>?_) fun p24=>?_
  · have e17:=A7_ (f:=fun zz=>Hw_ zz total kept) hp14_2 (Es_ (by omega)) (Hw_.eq_2 _ _ _ _);have hc18:=getG (xs:=r1) (k:=k) (by omega);refine gx Bo_ 6 ?_;refine q1 (qidx Bo_ k rfl rfl rfl hc18 rfl rfl rfl rfl) rfl fun w19=>?_;refine gm Bo_ 9 [4] fun B21=>?_;refine ef (bsl 5 NoteR.pc [(gt r1 k)] Bo_ rfl rfl rfl rfl rfl (fun _=>rfl) rfl (by decide) (by decide) rfl fun u22=>?_);refine ef (app Bo_ [(gt r1 k)] rfl rfl rfl rfl rfl rfl rfl rfl rfl (src_o rfl rfl) (by first|omega|(simp;omega)) rfl fun u23=>?_);refine gx Bo_ 1 ?_;refine ef (H7_ Bo_ rfl rfl rfl rfl rfl rfl rfl rfl rfl ?_);refine gy Bo_ 7 ?_;refine next ⟨(k+1),total,(kept++[(gt r1 k)]),(u23)⟩ rfl rfl ⟨rfl,trivial⟩ ⟨rfl,rfl,trivial⟩ ?_ ?_
    · (try simp only[]);omega
    exact⟨by (try simp only[]);omega,e17,(by (try simp only[List.length_append,List.length_cons,List.length_nil]);omega)⟩
  have e25:=A7_ (f:=fun zz=>Hw_ zz total kept) hp14_2 (Et_ (by omega)) (Hw_.eq_1 _ _);refine gx Bo_ 7 ?_;refine give 3 rfl ?_;refine gm Bo_ 5 [] fun _=>?_;exact rt1 rfl rfl (J_ (fun r:B7_=> .agg (B7_.pc r)) e25 (ple rfl))
theorem Xi_ (b:BookR) (hb:BkOk b/\BkB b:=by assumption):Fn Tryz.prog gb 53 [.agg (BookR.pc b)] (.agg (BookR.pc (Nu_ b))):=by
  refine fC Tryz.func53 Bo_ Tryz.ntmps53 fun w N H hG=>?_;have hbk:=hb.1;obtain⟨hb1,hb2,hb3⟩:=hbk;have e0:=Nu_.eq_1 b;refine gm Bo_ 15 [0,1,2] fun B2=>?_;refine cV e0 R34_ (Kn_ _) rfl fun r hr5 e7 w6=>?_;have hA7:=Re_ b
  (try rw[<- hr5] at hA7)
  have hA8:=congrArg List.length (Re_ b)
  (try rw[<- hr5] at hA8)
  refine gx Bo_ 5 ?_;refine Mh_ (i:=2) (o:=0) (k:=3) (e:=250) 3 ShopR.pc rfl (by decide) rfl rfl ?_;refine Mh_ (i:=2) (o:=1) (k:=6) (e:=251) 4 BindR.pc rfl (by decide) rfl rfl ?_;refine loop (ι:=Nat×(List ShopR)×(List BindR)×Value×Value) [1,2,3,9,10] [0,1] (fun ⟨k,shops,binds,u_shops,u_binds⟩=>[(11, .int .i64 (k:Int))]) (fun ⟨k,shops,binds,u_shops,u_binds⟩=>[(2, .box (B2 2) 88 [.osl 3, .osl 4]),(3, .arr u_shops 3 250 ShopR.pc shops),(4, .arr u_binds 6 251 BindR.pc binds)]) (fun ⟨k,shops,binds,u_shops,u_binds⟩=>k<=r.length/\Nu_ b=Ht_ b (r.drop k) shops binds/\shops.length<=k/\binds.length=0) (fun ⟨k,shops,binds,u_shops,u_binds⟩=>r.length-k) ⟨0,[],[],(.slice none 0 0),(.slice none 0 0)⟩ ⟨rfl,trivial⟩ ⟨rfl,rfl,rfl,trivial⟩ ?_ ?_
  · exact⟨Nat.zero_le _,e7,⟨by simp,by simp⟩⟩
  rintro⟨k,shops,binds,u_shops,u_binds⟩ ⟨hp10_1,hp10_2,hp10_3⟩;refine gx Bo_ 6 ?_;refine cn rfl (fun p12=>?_) fun p20=>?_
  · have e13:=A7_ (f:=fun zz=>Ht_ b zz shops binds) hp10_2 (Es_ (by omega)) (Ht_.eq_2 _ _ _ _ _);have hc14:=getG (xs:=r) (k:=k) (by omega);refine gx Bo_ 6 ?_;refine q1 (qidx Bo_ k rfl rfl rfl hc14 rfl rfl rfl rfl) rfl fun w15=>?_;refine gm Bo_ 9 [5] fun B17=>?_;refine ef (bsl 6 ShopR.pc [(gt r k)] Bo_ rfl rfl rfl rfl rfl (fun _=>rfl) rfl (by decide) (by decide) rfl fun u18=>?_);refine ef (app Bo_ [(gt r k)] rfl rfl rfl rfl rfl rfl rfl rfl rfl (src_o rfl rfl) (by first|omega|(simp;omega)) rfl fun u19=>?_);refine gx Bo_ 1 ?_;refine ef (H7_ Bo_ rfl rfl rfl rfl rfl rfl rfl rfl rfl ?_);refine gy Bo_ 7 ?_;refine next ⟨(k+1),(shops++[(gt r k)]),binds,(u19),(u_binds)⟩ rfl rfl ⟨rfl,trivial⟩ ⟨rfl,rfl,rfl,trivial⟩ ?_ ?_
    · (try simp only[]);omega
    exact⟨by (try simp only[]);omega,e13,⟨(by (try simp only[List.length_append,List.length_cons,List.length_nil]);omega),by omega⟩⟩
  have e21:=A7_ (f:=fun zz=>Ht_ b zz shops binds) hp10_2 (Et_ (by omega)) (Ht_.eq_1 _ _ _);refine gx Bo_ 9 ?_;refine cV e21 R8_ (Kl_ _) rfl fun r1 hr22 e24 w23=>?_;have hA24:=Lw_ b
  (try rw[<- hr22] at hA24)
  have hA25:=congrArg List.length (Lw_ b)
  (try rw[<- hr22] at hA25)
  refine gx Bo_ 5 ?_;refine loop (ι:=Nat×(List ShopR)×(List BindR)×Value×Value) [2,3,23,24] [0,1] (fun ⟨k1,shops1,binds1,u_shops1,u_binds1⟩=>[(25, .int .i64 (k1:Int))]) (fun ⟨k1,shops1,binds1,u_shops1,u_binds1⟩=>[(2, .box (B2 2) 88 [.osl 3, .osl 4]),(3, .arr u_shops1 3 250 ShopR.pc shops1),(4, .arr u_binds1 6 251 BindR.pc binds1)]) (fun ⟨k1,shops1,binds1,u_shops1,u_binds1⟩=>k1<=r1.length/\Nu_ b=Hu_ (r1.drop k1) shops1 binds1/\binds1.length<=k1) (fun ⟨k1,shops1,binds1,u_shops1,u_binds1⟩=>r1.length-k1) ⟨0,shops,binds,(u_shops),(u_binds)⟩ ⟨rfl,trivial⟩ ⟨rfl,rfl,rfl,trivial⟩ ?_ ?_
  · exact⟨Nat.zero_le _,e24,by omega⟩
  rintro⟨k1,shops1,binds1,u_shops1,u_binds1⟩ ⟨hp27_1,hp27_2,hp27_3⟩;refine gx Bo_ 6 ?_;refine cn rfl (fun p29=>?_) fun p38=>?_
  · have e30:=A7_ (f:=fun zz=>Hu_ zz shops1 binds1) hp27_2 (Es_ (by omega)) (Hu_.eq_2 _ _ _ _);have hc31:=getG (xs:=r1) (k:=k1) (by omega);have hz_hc31:=hb.2.2 (gt r1 k1) (by have hm:=List.mem_of_getElem? hc31;first|exact hm|exact Eq.subst (motive:=fun l=>(gt r1 k1)∈l) (show r1=b.binds by assumption) hm);have hv_hc31:=Mj_ hz_hc31.2.2.2.1;refine gx Bo_ 6 ?_;refine q1 (qidx Bo_ k1 rfl rfl rfl hc31 rfl rfl rfl rfl) rfl fun w32=>?_;refine gm Bo_ 5 [5] fun B34=>?_;refine aN [4,6,7,8,9,10,11] 8 mixd ?_;refine gX Bo_ [0,1,2] 5 ?_;refine vE 3 rfl (eC (l14_To _) rfl fun w35=>?_);refine vE 4 rfl (bsl 6 BindR.pc [(gt r1 k1)] Bo_ rfl rfl rfl rfl rfl (fun _=>rfl) rfl (by decide) (by decide) rfl fun u36=>?_);refine vE 5 rfl (app Bo_ [(gt r1 k1)] rfl rfl rfl rfl rfl rfl rfl rfl rfl (src_o rfl rfl) (by first|omega|(simp;omega)) rfl fun u37=>?_);refine gX Bo_ [6] 1 ?_;refine vT 7 rfl (H7_ Bo_ rfl rfl rfl rfl rfl rfl rfl rfl rfl ?_);refine vD ?_;refine gy Bo_ 6 ?_;refine next ⟨(k1+1),shops1,(binds1++[(gt r1 k1)]),(u_shops1),(u37)⟩ rfl rfl ⟨rfl,trivial⟩ ⟨rfl,rfl,rfl,trivial⟩ ?_ ?_
    · (try simp only[]);omega
    exact⟨by (try simp only[]);omega,e30,(by (try simp only[List.length_append,List.length_cons,List.length_nil]);omega)⟩
  have e39:=A7_ (f:=fun zz=>Hu_ zz shops1 binds1) hp27_2 (Et_ (by omega)) (Hu_.eq_1 _ _);refine gx Bo_ 7 ?_;refine give 3 rfl ?_;refine give 4 rfl ?_;refine gm Bo_ 5 [] fun _=>?_;exact rt1 rfl rfl (J_ (fun r:BookR=> .agg (BookR.pc r)) e39 (ple rfl))
theorem sz91:Sz Tryz.prog 91 2:=fun w=>by kernel_rfl
abbrev ty89:TI:=⟨.slc 163,1,24,[.sl RRowR.pc []]⟩
abbrev ty94:TI:=⟨.agg [(0,1),(1,1),(2,1),(3,32)],35,552,[.int .u64 0, .int .i64 0, .val (.slice none 0 0), .int .u64 0, .sl Mail.pc [], .int .u64 0, .sl Mail.pc [], .int .u64 0, .sl Mail.pc [], .int .u64 0, .sl Mail.pc [], .int .u64 0, .sl Mail.pc [], .int .u64 0, .sl Mail.pc [], .int .u64 0, .sl Mail.pc [], .int .u64 0, .sl Mail.pc [], .int .u64 0, .sl Mail.pc [], .int .u64 0, .sl Mail.pc [], .int .u64 0, .sl Mail.pc [], .int .u64 0, .sl Mail.pc [], .int .u64 0, .sl Mail.pc [], .int .u64 0, .sl Mail.pc [], .int .u64 0, .sl Mail.pc [], .int .u64 0, .sl Mail.pc []]⟩
abbrev ty163:TI:=⟨.agg [(0,4),(4,1)],5,72,[.str [], .int .u64 0, .int .u64 0, .str [], .sl ItemR.pc []]⟩
def tbv147:Tb:=[(3,ty3),(4,ty4),(5,ty5),(9,ty9),(45,ty45),(50,ty50),(66,ty66),(67,ty67),(71,ty71),(89,ty89),(91,ty91),(94,ty94),(127,Tq_),(161,ty161),(163,ty163),(187,ty187),(251,ty251),(263,ty263)]
theorem Cz_:tbB Tryz.prog tbv147=true:=by kernel_rfl
theorem Zx_ (l:List ItemR) (hl:l.length<=1000:=by first|omega|assumption):Fn Tryz.prog gb 151 [.sl ItemR.pc l] (.int .i64 (K6_ l)):=by
  refine fC Tryz.func151 Cz_ Tryz.ntmps151 fun w N H hG=>?_;have e0:=K6_.eq_1 l;refine gx Cz_ 19 ?_;refine loop (ι:=Nat×Int) [2,6,7] [] (fun ⟨k,n⟩=>[(8, .int .i64 (k:Int)),(3, .int .i64 n)]) (fun ⟨k,n⟩=>[]) (fun ⟨k,n⟩=>k<=l.length/\K6_ l=D4_ (l.drop k) n/\0<=n/\n<=20000*k) (fun ⟨k,n⟩=>l.length-k) ⟨0,0⟩ ⟨rfl,rfl,trivial⟩ trivial ?_ ?_
  · exact⟨Nat.zero_le _,e0,⟨by omega,by omega⟩⟩
  rintro⟨k,n⟩ ⟨hp1_1,hp1_2,hp1_3⟩;refine gx Cz_ 6 ?_;refine cn rfl (fun p3=>?_) fun p13=>?_
  · have e4:=A7_ (f:=fun zz=>D4_ zz n) hp1_2 (Es_ (by omega)) (D4_.eq_2 _ _ _);have hc5:=getG (xs:=l) (k:=k) (by omega);refine gx Cz_ 6 ?_;refine q1 (qidx Cz_ k rfl rfl rfl hc5 rfl rfl rfl rfl) rfl fun w6=>?_;refine gm Cz_ 9 [0] fun B8=>?_;refine cV e4 R0_ (Tc_ _) rfl fun r hr9 e11 w10=>?_;have hA11:=Pa_ ((gt l k).mail)
    (try rw[<- hr9] at hA11)
    refine gy Cz_ 9 ?_;refine next ⟨(k+1),(n+r)⟩ rfl rfl ⟨rfl,rfl,trivial⟩ trivial ?_ ?_
    · (try simp only[]);omega
    exact⟨by (try simp only[]);omega,e11,⟨by (try simp only[]);omega,by (try simp only[]);omega⟩⟩
  have e14:=A7_ (f:=fun zz=>D4_ zz n) hp1_2 (Et_ (by omega)) (D4_.eq_1 _);refine gx Cz_ 12 ?_;exact rt1 rfl rfl (J_ (fun r:Int=> .int .i64 r) e14 (ple rfl))
theorem Zy_ (x:RiseR) (hl:x.kept.length<=1000:=by first|omega|assumption):Fn Tryz.prog gb 152 [.agg (RiseR.pc x)] (.int .i64 (K7_ x)):=by
  refine fC Tryz.func152 Cz_ Tryz.ntmps152 fun w N H hG=>?_;have e0:=K7_.eq_1 x;refine gm Cz_ 21 [0] fun B2=>?_;refine loop (ι:=Nat×Int) [2,7,8] [0] (fun ⟨k,n⟩=>[(9, .int .i64 (k:Int)),(3, .int .i64 n)]) (fun ⟨k,n⟩=>[]) (fun ⟨k,n⟩=>k<=x.kept.length/\K7_ x=D5_ (x.kept.drop k) n/\0<=n/\n<=20000*k) (fun ⟨k,n⟩=>x.kept.length-k) ⟨0,0⟩ ⟨rfl,rfl,trivial⟩ trivial ?_ ?_
  · exact⟨Nat.zero_le _,e0,⟨by omega,by omega⟩⟩
  rintro⟨k,n⟩ ⟨hp3_1,hp3_2,hp3_3⟩;refine gx Cz_ 6 ?_;refine cn rfl (fun p5=>?_) fun p15=>?_
  · have e6:=A7_ (f:=fun zz=>D5_ zz n) hp3_2 (Es_ (by omega)) (D5_.eq_2 _ _ _);have hc7:=getG (xs:=x.kept) (k:=k) (by omega);refine gx Cz_ 6 ?_;refine q1 (qidx Cz_ k rfl rfl rfl hc7 rfl rfl rfl rfl) rfl fun w8=>?_;refine gm Cz_ 8 [1] fun B10=>?_;refine cV e6 R0_ (Tc_ _) rfl fun r hr11 e13 w12=>?_;have hA13:=Pa_ (gt x.kept k)
    (try rw[<- hr11] at hA13)
    refine gy Cz_ 9 ?_;refine next ⟨(k+1),(n+r)⟩ rfl rfl ⟨rfl,rfl,trivial⟩ trivial ?_ ?_
    · (try simp only[]);omega
    exact⟨by (try simp only[]);omega,e13,⟨by (try simp only[]);omega,by (try simp only[]);omega⟩⟩
  have e16:=A7_ (f:=fun zz=>D5_ zz n) hp3_2 (Et_ (by omega)) (D5_.eq_1 _);refine gx Cz_ 12 ?_;exact rt1 rfl rfl (J_ (fun r:Int=> .int .i64 r) e16 (ple rfl))
theorem Zw_ (a:LabelR):Fn Tryz.prog gb 65 [.agg (LabelR.pc a)] (.str (J0_ a)):=by
  refine fC Tryz.func65 Cz_ Tryz.ntmps65 fun w N H hG=>?_;have a_level_r:0<=a.level/\a.level<=255:=w.1.1;have a_set__r:0<=a.set_/\a.set_<=4294967295:=w.1.2.1;have e0:=J0_.eq_1 a;refine gm Cz_ 11 [0] fun B2=>?_;refine call (Ni_ _) rfl rfl fun w3=>?_;have hB3:=De_ a.level;refine gx Cz_ 10 ?_;refine loop (ι:=Nat×Bs×Nat) [1,2] [0] (fun ⟨f,s,i⟩=>[(3, .str s),(4, .int .i64 (i:Int))]) (fun ⟨f,s,i⟩=>[]) (fun ⟨f,s,i⟩=>32-i<f/\J0_ a=Ge_ a f s i/\i<=32/\s.length<=21+22*i) (fun ⟨f,s,i⟩=>f) ⟨(32-0+1),(decB a.level),0⟩ ⟨rfl,rfl,trivial⟩ trivial ?_ ?_
  · exact⟨Nat.lt_succ_self _,e0,⟨by omega,by omega⟩⟩
  rintro⟨f,s,i⟩ ⟨hp5_1,hp5_2,hp5_3⟩;obtain⟨f1,rfl⟩:∃ q,f=q+1:=⟨f-1,by omega⟩;have e_f1:=hp5_2.trans (Ge_.eq_2 _ _ _ _);refine gx Cz_ 7 ?_;refine cD e_f1 (fun p7 e8=>?_) (fun p15 e16=>?_)
  · refine gx Cz_ 8 ?_;refine call (Qb_ _ _) rfl rfl fun w9=>?_;refine gx Cz_ 2 ?_;refine cE e8 (fun h10 e11=>?_) (fun h10 e14=>?_)
    · refine go Cz_ 4 rfl rfl ⟨(by (try simp only[List.length_append,List.length_cons,List.length_nil]);omega),trivial⟩ ?_;refine call (Ni_ _) rfl rfl fun w12=>?_;have hB12:=De_ (i:Int);refine go Cz_ 10 rfl rfl ⟨(by (try simp only[List.length_append,List.length_cons,List.length_nil]);omega),(by omega),trivial⟩ ?_;refine next ⟨f1,((s++[58])++(decB (i:Int))),(i+1)⟩ rfl rfl ⟨rfl,rfl,trivial⟩ trivial ?_ ?_
      · (try simp only[]);omega
      exact⟨by (try simp only[]);omega,e11,⟨by omega,(by (try simp only[List.length_append,List.length_cons,List.length_nil]);omega)⟩⟩
    refine gy Cz_ 8 ?_;refine next ⟨f1,s,(i+1)⟩ rfl rfl ⟨rfl,rfl,trivial⟩ trivial ?_ ?_
    · (try simp only[]);omega
    exact⟨by (try simp only[]);omega,e14,⟨by omega,(by (try simp only[List.length_append,List.length_cons,List.length_nil]);omega)⟩⟩
  refine gx Cz_ 12 ?_;exact rt1 rfl rfl (J_ (fun r:Bs=> .str r) e16 (ple rfl))
theorem So_ (s:E_) (hs:StkOk s:=by assumption):Fn Tryz.prog gb 54 [.agg (E_.pc s)] (.agg (Dw_.pc (Hx_ s))):=by
  refine fC Tryz.func54 Cz_ Tryz.ntmps54 fun w N H hG=>?_;have e0:=Hx_.eq_1 s;refine gm Cz_ 7 [0,1] fun B2=>?_;refine aN [2,3,4,5,6,7] 10 mixd ?_;refine gX Cz_ [0] 9 ?_;refine vC 1 rfl (Oc_ s) rfl fun w4=>?_;refine gX Cz_ [2] 7 ?_;refine vC 3 rfl (Gi_ s) rfl fun w5=>?_;have hB5:=Pw_ s (by assumption);refine gX Cz_ [4] 5 ?_;refine vC 5 rfl (Ks_ s) rfl fun w7=>?_;have hB7:=kroom_r s (by assumption);refine gXy Cz_ [6,7] 2 ?_;refine vE 8 rfl (aL Cz_ 2 fun b9=>?_);refine vT 9 rfl (sA Cz_ ?_);refine vD ?_;refine gx Cz_ 5 ?_;refine cV e0 R35_ (Jj_ _ (hs:=by exact Nat.le_trans hs.1.1 (by decide))) rfl fun r hr10 e12 w11=>?_;have hA12:=Nh_ (s:=s) hs
  (try rw[<- hr10] at hA12)
  refine gx Cz_ 5 ?_;refine Mh_ (i:=2) (o:=2) (k:=5) (e:=163) 3 RRowR.pc rfl (by decide) rfl rfl ?_;refine loop (ι:=Nat×(List RRowR)×Value) [1,2,3,16,17] [0,1] (fun ⟨k,rows,u_rows⟩=>[(18, .int .i64 (k:Int))]) (fun ⟨k,rows,u_rows⟩=>[(2, .box b9 94 [.int .u64 (Fn_ s), .int .i64 ((M_ s)+(C6_ s)), .osl 3, .int .u64 0, .sl Mail.pc [], .int .u64 0, .sl Mail.pc [], .int .u64 0, .sl Mail.pc [], .int .u64 0, .sl Mail.pc [], .int .u64 0, .sl Mail.pc [], .int .u64 0, .sl Mail.pc [], .int .u64 0, .sl Mail.pc [], .int .u64 0, .sl Mail.pc [], .int .u64 0, .sl Mail.pc [], .int .u64 0, .sl Mail.pc [], .int .u64 0, .sl Mail.pc [], .int .u64 0, .sl Mail.pc [], .int .u64 0, .sl Mail.pc [], .int .u64 0, .sl Mail.pc [], .int .u64 0, .sl Mail.pc [], .int .u64 0, .sl Mail.pc []]),(3, .arr u_rows 5 163 RRowR.pc rows)]) (fun ⟨k,rows,u_rows⟩=>k<=r.length/\Hx_ s=Gm_ s (r.drop k) rows/\rows.length<=k) (fun ⟨k,rows,u_rows⟩=>r.length-k) ⟨0,[],(.slice none 0 0)⟩ ⟨rfl,trivial⟩ ⟨rfl,rfl,trivial⟩ ?_ ?_
  · exact⟨Nat.zero_le _,e12,(by first|omega|(simp;done)|(simp;omega))⟩
  rintro⟨k,rows,u_rows⟩ ⟨hp14_1,hp14_2,hp14_3⟩;refine gx Cz_ 6 ?_;refine cn rfl (fun p16=>?_) fun p31=>?_
  · have e17:=A7_ (f:=fun zz=>Gm_ s zz rows) hp14_2 (Es_ (by omega)) (Gm_.eq_2 _ _ _ _);have hc18:=getG (xs:=r) (k:=k) (by omega);refine gx Cz_ 6 ?_;refine q1 (qidx Cz_ k rfl rfl rfl hc18 rfl rfl rfl rfl) rfl fun w19=>?_;refine gm Cz_ 5 [4] fun B21=>?_;refine aN [3,5,6,7,8,9,10] 13 mixd ?_;refine gX Cz_ [0,1,2,3,4,5] 7 ?_;refine vE 6 rfl (eC (Kp_ s _) rfl ?_);generalize hr23:Ap_ s ((gt r k).name)=r1;intro w22;have e24:=e17.trans (Ei_ hr23.symm);have hr23:=hr23.symm;have hA24:=P4_ (s:=s) (n:=((gt r k).name)) hs
    (try rw[<- hr23] at hA24)
    refine vE 7 rfl (eC (l18_Of_ok r1) rfl ?_);generalize hr27:Qm_ r1=r2;intro w26;have e28:=e24.trans (Ei_ hr27.symm);refine gX Cz_ [8] 4 ?_;refine vE 9 rfl (bsl 5 RRowR.pc [(⟨(gt r k),r2⟩:RRowR)] Cz_ rfl rfl rfl rfl rfl (fun _=>rfl) rfl (by decide) (by decide) rfl fun u29=>?_);refine vE 10 rfl (app Cz_ [(⟨(gt r k),r2⟩:RRowR)] rfl rfl rfl rfl rfl rfl rfl rfl rfl (src_o rfl rfl) (by first|omega|(simp;omega)) rfl fun u30=>?_);refine gX Cz_ [11] 1 ?_;refine vT 12 rfl (H7_ Cz_ rfl rfl rfl rfl rfl rfl rfl rfl rfl ?_);refine vD ?_;refine gy Cz_ 6 ?_;refine next ⟨(k+1),(rows++[(⟨(gt r k),r2⟩:RRowR)]),(u30)⟩ rfl rfl ⟨rfl,trivial⟩ ⟨rfl,rfl,trivial⟩ ?_ ?_
    · (try simp only[]);omega
    exact⟨by (try simp only[]);omega,e28,(by (try simp only[List.length_append,List.length_cons,List.length_nil]);omega)⟩
  have e32:=A7_ (f:=fun zz=>Gm_ s zz rows) hp14_2 (Et_ (by omega)) (Gm_.eq_1 _ _);refine gx Cz_ 12 ?_;refine givec 3 rfl ?_;refine loop (ι:=Nat×Nat×Dw_) [1,2,3] [0,1] (fun ⟨f,v,x⟩=>[(35, .int .i64 (v:Int))]) (fun ⟨f,v,x⟩=>[(2, .box b9 94 (Dw_.pc x))]) (fun ⟨f,v,x⟩=>16-v<f/\Hx_ s=Ih_ s f v x) (fun ⟨f,v,x⟩=>f) ⟨(16-0+1),0,(⟨(Fn_ s),((M_ s)+(C6_ s)),rows,(⟨(⟨0,[]⟩:RiseR),(⟨0,[]⟩:RiseR),(⟨0,[]⟩:RiseR),(⟨0,[]⟩:RiseR),(⟨0,[]⟩:RiseR),(⟨0,[]⟩:RiseR),(⟨0,[]⟩:RiseR),(⟨0,[]⟩:RiseR),(⟨0,[]⟩:RiseR),(⟨0,[]⟩:RiseR),(⟨0,[]⟩:RiseR),(⟨0,[]⟩:RiseR),(⟨0,[]⟩:RiseR),(⟨0,[]⟩:RiseR),(⟨0,[]⟩:RiseR),(⟨0,[]⟩:RiseR)⟩:A16_RiseR)⟩:Dw_)⟩ ⟨rfl,trivial⟩ ⟨rfl,trivial⟩ ?_ ?_
  · exact⟨Nat.lt_succ_self _,e32⟩
  rintro⟨f,v,x⟩ ⟨hp33_1,hp33_2⟩;obtain⟨f1,rfl⟩:∃ q,f=q+1:=⟨f-1,by omega⟩;have e_f1:=hp33_2.trans (Ih_.eq_2 _ _ _ _);refine gx Cz_ 6 ?_;refine cD e_f1 (fun p35 e36=>?_) (fun p45 e46=>?_)
  · refine gx Cz_ 14 ?_;refine cV e36 R37_ (Kr_ _ _) rfl fun r3 hr37 e39 w38=>?_;have hA39:=Wa_ (s:=s) (k:=(v:Int)) hs
    (try rw[<- hr37] at hA39)
    refine cV e39 R37_ (l20_Of_ok _) rfl fun r4 hr41 e43 w42=>?_;refine gx Cz_ 1 ?_;refine q1 (qaia v rfl rfl Tryz.underlying92 sz91 rfl (by omega)) rfl fun w44=>?_;refine ef (Rc_ (sz:=2) (len:=16) (fun q=>Dw_.pc (⟨x.next,x.most,x.rows,(A16.set x.rises r4 q)⟩:Dw_)) v 3 2 0 Cz_ rfl rfl rfl rfl rfl rfl rfl rfl rfl (by omega) (bw16 rfl rfl rfl rfl rfl rfl rfl rfl rfl rfl rfl rfl rfl rfl rfl rfl) rfl (bw16 rfl rfl rfl rfl rfl rfl rfl rfl rfl rfl rfl rfl rfl rfl rfl rfl) rfl ?_);refine gy Cz_ 7 ?_;refine next ⟨f1,(v+1),(⟨x.next,x.most,x.rows,(A16.set x.rises r4 v)⟩:Dw_)⟩ rfl rfl ⟨rfl,trivial⟩ ⟨rfl,trivial⟩ ?_ ?_
    · (try simp only[]);omega
    exact⟨by (try simp only[]);omega,e43⟩
  refine gm Cz_ 12 [] fun _=>?_;exact rt1 rfl rfl (J_ (fun r:Dw_=> .agg (Dw_.pc r)) e46 (ple rfl))
theorem Z2_ (b:BindR) (hb:BiB b:=by assumption):Fn Tryz.prog gb 153 [.agg (BindR.pc b)] (.str (L4_ b)):=by
  refine fC Tryz.func153 Cz_ Tryz.ntmps153 fun w N H hG=>?_;obtain⟨hb1,hb2,hb3,hb4,hb5⟩:=id hb;have hb6:=Kg_ hb2;have e0:=L4_.eq_1 b;refine gmp Cz_ 19 [0] (fun _=>rfl) (fun _=>rfl) (fun _=>⟨(by (try simp only[List.length_append,List.length_cons,List.length_nil]);omega),(by (try simp only[List.length_append,List.length_cons,List.length_nil]);omega),(by (try simp only[List.length_append,List.length_cons,List.length_nil]);omega),trivial⟩) fun B2=>?_;obtain⟨o,e_o,q_o⟩:=G6_ e0;refine Jn_ (ι:=Bs) [1,2] [0] (fun s=>[(3, .str s)]) (fun s=>[]) (fun s=>o=s/\s.length<=60) ?_ ?_
  · refine gx Cz_ 6 ?_;refine cE e_o (fun h3 e4=>?_) (fun h3 e5=>?_)
    · refine go Cz_ 5 rfl rfl ⟨(by (try simp only[List.length_append,List.length_cons,List.length_nil]);omega),trivial⟩ ?_;refine nX (((([98,105,110,100,32]++b.shop)++[32])++b.to')++[32,117,112,32]) ?_ ⟨rfl,trivial⟩ trivial;exact⟨e4,(by (try simp only[List.length_append,List.length_cons,List.length_nil]);omega)⟩
    refine go Cz_ 5 rfl rfl ⟨(by (try simp only[List.length_append,List.length_cons,List.length_nil]);omega),trivial⟩ ?_;refine nX (((([98,105,110,100,32]++b.shop)++[32])++b.to')++[32,113,117,101,117,101,32]) ?_ ⟨rfl,trivial⟩ trivial;exact⟨e5,(by (try simp only[List.length_append,List.length_cons,List.length_nil]);omega)⟩
  rintro s ⟨hp6,hp6_3⟩;have e7:=Ke_ q_o hp6;refine gx Cz_ 6 ?_;refine cV e7 R33_ (L5_ _) rfl fun r hr8 e10 w9=>?_;have hA10:=Kj_ b.key
  (try rw[<- hr8] at hA10)
  refine go Cz_ 5 rfl rfl ⟨(by (try simp only[List.length_append,List.length_cons,List.length_nil]);omega),trivial⟩ ?_;obtain⟨o1,e_o1,q_o1⟩:=G6_ e10;refine Jn_ (ι:=Bs) [1,2] [0] (fun s1=>[(3, .str s1)]) (fun s1=>[]) (fun s1=>o1=s1/\s1.length<=150) ?_ ?_
  · refine gx Cz_ 6 ?_;refine cE e_o1 (fun h12 e13=>?_) (fun h12 e14=>?_)
    · refine go Cz_ 5 rfl rfl ⟨(by (try simp only[List.length_append,List.length_cons,List.length_nil]);omega),trivial⟩ ?_;refine nX ((s++r)++[32,97,108,108,32]) ?_ ⟨rfl,trivial⟩ trivial;exact⟨e13,(by (try simp only[List.length_append,List.length_cons,List.length_nil]);omega)⟩
    refine go Cz_ 5 rfl rfl ⟨(by (try simp only[List.length_append,List.length_cons,List.length_nil]);omega),trivial⟩ ?_;refine nX ((s++r)++[32,97,110,121,32]) ?_ ⟨rfl,trivial⟩ trivial;exact⟨e14,(by (try simp only[List.length_append,List.length_cons,List.length_nil]);omega)⟩
  rintro s1 ⟨hp15,hp15_3⟩;have e16:=Ke_ q_o1 hp15;refine gx Cz_ 7 ?_;refine cV e16 R33_ (Hk_ _) rfl fun r1 hr17 e19 w18=>?_;have hA19:=Hl_ (b.want.length:Int)
  (try rw[<- hr17] at hA19)
  refine go Cz_ 5 rfl rfl ⟨(by (try simp only[List.length_append,List.length_cons,List.length_nil]);omega),trivial⟩ ?_;exact rt1 rfl rfl (J_ (fun r:Bs=> .str r) e19 (ple rfl))
theorem sz98:Sz Tryz.prog 98 2:=fun w=>by kernel_rfl
abbrev ty88v148:TI:=⟨.agg [(0,1),(1,1)],2,48,[.sl ShopR.pc [], .sl BindR.pc []]⟩
abbrev ty92:TI:=⟨.arr,32,512,[.int .u64 0, .sl Mail.pc [], .int .u64 0, .sl Mail.pc [], .int .u64 0, .sl Mail.pc [], .int .u64 0, .sl Mail.pc [], .int .u64 0, .sl Mail.pc [], .int .u64 0, .sl Mail.pc [], .int .u64 0, .sl Mail.pc [], .int .u64 0, .sl Mail.pc [], .int .u64 0, .sl Mail.pc [], .int .u64 0, .sl Mail.pc [], .int .u64 0, .sl Mail.pc [], .int .u64 0, .sl Mail.pc [], .int .u64 0, .sl Mail.pc [], .int .u64 0, .sl Mail.pc [], .int .u64 0, .sl Mail.pc [], .int .u64 0, .sl Mail.pc []]⟩
abbrev ty94v148:TI:=⟨.agg [(0,1),(1,1),(2,1),(3,32)],35,552,[.int .u64 0, .int .i64 0, .sl RRowR.pc [], .int .u64 0, .sl Mail.pc [], .int .u64 0, .sl Mail.pc [], .int .u64 0, .sl Mail.pc [], .int .u64 0, .sl Mail.pc [], .int .u64 0, .sl Mail.pc [], .int .u64 0, .sl Mail.pc [], .int .u64 0, .sl Mail.pc [], .int .u64 0, .sl Mail.pc [], .int .u64 0, .sl Mail.pc [], .int .u64 0, .sl Mail.pc [], .int .u64 0, .sl Mail.pc [], .int .u64 0, .sl Mail.pc [], .int .u64 0, .sl Mail.pc [], .int .u64 0, .sl Mail.pc [], .int .u64 0, .sl Mail.pc [], .int .u64 0, .sl Mail.pc []]⟩
abbrev ty98:TI:=⟨.agg [(0,1),(1,1)],2,16,[.int .u64 0, .int .i64 0]⟩
abbrev ty101:TI:=⟨.agg [(0,5),(5,1),(6,2),(8,35),(43,2),(45,16),(61,16)],77,984,[.int .i64 0, .int .i64 0, .sl PlaceR.pc [], .sl i64c [], .sl GrantR.pc [], .int .i64 0, .sl ShopR.pc [], .sl BindR.pc [], .int .u64 0, .int .i64 0, .sl RRowR.pc [], .int .u64 0, .sl Mail.pc [], .int .u64 0, .sl Mail.pc [], .int .u64 0, .sl Mail.pc [], .int .u64 0, .sl Mail.pc [], .int .u64 0, .sl Mail.pc [], .int .u64 0, .sl Mail.pc [], .int .u64 0, .sl Mail.pc [], .int .u64 0, .sl Mail.pc [], .int .u64 0, .sl Mail.pc [], .int .u64 0, .sl Mail.pc [], .int .u64 0, .sl Mail.pc [], .int .u64 0, .sl Mail.pc [], .int .u64 0, .sl Mail.pc [], .int .u64 0, .sl Mail.pc [], .int .u64 0, .sl Mail.pc [], .int .u64 0, .sl Mail.pc [], .int .u64 0, .sl NoteR.pc [], .int .u64 0, .int .u64 0, .int .u64 0, .int .u64 0, .int .u64 0, .int .u64 0, .int .u64 0, .int .u64 0, .int .u64 0, .int .u64 0, .int .u64 0, .int .u64 0, .int .u64 0, .int .u64 0, .int .u64 0, .int .u64 0, .int .u64 0, .int .i64 0, .int .u64 0, .int .i64 0, .int .u64 0, .int .i64 0, .int .u64 0, .int .i64 0, .int .u64 0, .int .i64 0, .int .u64 0, .int .i64 0, .int .u64 0, .int .i64 0, .int .u64 0, .int .i64 0]⟩
def tbv148:Tb:=[(5,ty5),(9,ty9),(43,ty43),(50,ty50),(53,ty53),(54,ty54),(56,ty56),(57,ty57),(59,ty59),(84,ty84),(85,ty85),(86,ty86),(88,ty88v148),(89,ty89),(91,ty91),(92,ty92),(94,ty94v148),(98,ty98),(101,ty101),(106,Ns_),(161,ty161),(163,ty163),(250,ty250),(251,ty251)]
theorem C9_:tbB Tryz.prog tbv148=true:=by kernel_rfl
theorem Zz_ (s:Dw_) (hs:RkOk s:=by first|assumption|exact hst):Fn Tryz.prog gb 66 [.agg (Dw_.pc s)] (.int .i64 (I3_ s)):=by
  refine fC Tryz.func66 C9_ Tryz.ntmps66 fun w N H hG=>?_;have hs1:=hs.1;have hs3:=hs.2.2;have e0:=I3_.eq_1 s;refine gm C9_ 21 [0] fun B2=>?_;refine loop (ι:=Nat×Int) [1,2,9,10] [0] (fun ⟨k,n⟩=>[(11, .int .i64 (k:Int)),(3, .int .i64 n)]) (fun ⟨k,n⟩=>[]) (fun ⟨k,n⟩=>k<=s.rows.length/\I3_ s=Gf_ s (s.rows.drop k) n/\0<=n/\n<=1300000*k) (fun ⟨k,n⟩=>s.rows.length-k) ⟨0,0⟩ ⟨rfl,rfl,trivial⟩ trivial ?_ ?_
  · exact⟨Nat.zero_le _,e0,⟨by omega,by omega⟩⟩
  rintro⟨k,n⟩ ⟨hp3_1,hp3_2,hp3_3⟩;refine gx C9_ 6 ?_;refine cn rfl (fun p5=>?_) fun p15=>?_
  · have e6:=A7_ (f:=fun zz=>Gf_ s zz n) hp3_2 (Es_ (by omega)) (Gf_.eq_2 _ _ _ _);have hc7:=getG (xs:=s.rows) (k:=k) (by omega);have hz_hc7:=hs.2.1 (gt s.rows k) (List.mem_of_getElem? hc7);refine gx C9_ 6 ?_;refine q1 (qidx C9_ k rfl rfl rfl hc7 rfl rfl rfl rfl) rfl fun w8=>?_;refine gm C9_ 9 [1] fun B10=>?_;refine cV e6 R0_ (Zx_ _) rfl fun r hr11 e13 w12=>?_;have hA13:=r18size_r ((gt s.rows k).l)
    (try rw[<- hr11] at hA13)
    refine gy C9_ 9 ?_;refine next ⟨(k+1),(n+r)⟩ rfl rfl ⟨rfl,rfl,trivial⟩ trivial ?_ ?_
    · (try simp only[]);omega
    exact⟨by (try simp only[]);omega,e13,⟨by (try simp only[]);omega,by (try simp only[]);omega⟩⟩
  have e16:=A7_ (f:=fun zz=>Gf_ s zz n) hp3_2 (Et_ (by omega)) (Gf_.eq_1 _ _);refine gx C9_ 14 ?_;refine loop (ι:=Nat×Int×Nat) [2,22] [0] (fun ⟨f,n1,v⟩=>[(3, .int .i64 n1),(23, .int .i64 (v:Int))]) (fun ⟨f,n1,v⟩=>[]) (fun ⟨f,n1,v⟩=>16-v<f/\I3_ s=Iy_ s f n1 v/\0<=n1/\n1<=11000000+400000*v/\v<=16) (fun ⟨f,n1,v⟩=>f) ⟨(16-0+1),n,0⟩ ⟨rfl,rfl,trivial⟩ trivial ?_ ?_
  · exact⟨Nat.lt_succ_self _,e16,⟨by omega,by omega,by omega⟩⟩
  rintro⟨f,n1,v⟩ ⟨hp17_1,hp17_2,hp17_3⟩;obtain⟨f1,rfl⟩:∃ q,f=q+1:=⟨f-1,by omega⟩;have e_f1:=hp17_2.trans (Iy_.eq_2 _ _ _ _);refine gx C9_ 6 ?_;refine cD e_f1 (fun p19 e20=>?_) (fun p28 e29=>?_)
  · refine gx C9_ 6 ?_;refine q1 (qaivA (fun q=>[.int .u64 ((A16.get s.rises q).total), .sl Mail.pc ((A16.get s.rises q).kept)]) v C9_ rfl rfl Tryz.underlying92 rfl rfl rfl rfl (by omega) (bw16 rfl rfl rfl rfl rfl rfl rfl rfl rfl rfl rfl rfl rfl rfl rfl rfl)) rfl fun w21=>?_;refine gm C9_ 7 [1] fun B23=>?_;refine cV e20 R0_ (Zy_ _ (hl:=by exact Nat.le_trans (hs3 _ (by omega)) (by decide))) rfl fun r1 hr24 e26 w25=>?_;have hB26:=r20size_r (A16.get s.rises v);have hq26:=hs3 _ (show v<16 by omega);refine gy C9_ 9 ?_;refine next ⟨f1,(n1+r1),(v+1)⟩ rfl rfl ⟨rfl,rfl,trivial⟩ trivial ?_ ?_
    · (try simp only[]);omega
    exact⟨by (try simp only[]);omega,e26,⟨by (try simp only[]);omega,by (try simp only[]);omega,by omega⟩⟩
  refine gx C9_ 12 ?_;exact rt1 rfl rfl (J_ (fun r:Int=> .int .i64 r) e29 (ple rfl))
theorem Ov_ (x:W_) (p:PolicyR) (at_:Int) (hx:PrOk x/\BkB x.book:=by assumption):Fn Tryz.prog gb 16 [.agg (W_.pc x), .agg (PolicyR.pc p), .int .i64 at_] (.agg (Cp_.pc (Hy_ x p at_))):=by
  refine fC Tryz.func16 C9_ Tryz.ntmps16 fun w N H hG=>?_;have e0:=Hy_.eq_1 x p at_;refine gm C9_ 8 [0,1,2] fun B2=>?_;refine Jn_ (ι:=Nat) [3,6] [0,1,2] (fun b5=>[(7, .own 3 b5 0)]) (fun b5=>[(3, .box b5 101 (Cp_.pc (⟨p,at_,(Nu_ x.book),(Hx_ x.stock),(Or_ x.notes),x.seen,(⟨(⟨0,0⟩:Au_),(⟨0,0⟩:Au_),(⟨0,0⟩:Au_),(⟨0,0⟩:Au_),(⟨0,0⟩:Au_),(⟨0,0⟩:Au_),(⟨0,0⟩:Au_),(⟨0,0⟩:Au_)⟩:A8_SpentR)⟩:Cp_)))]) (fun b5=>PV.wf (.agg (BookR.pc (Nu_ x.book)))/\PV.wf (.agg (Dw_.pc (Hx_ x.stock)))/\PV.wf (.agg (B7_.pc (Or_ x.notes)))) ?_ ?_
  · refine aN [3,4,5,6,7,8,9,10] 16 mixd ?_;refine gX C9_ [0,1,2,3,5,6,8,9,11,12] 6 ?_;refine veL 4 [14] (by kernel_rfl) ⟨⟨_,rfl,?_⟩,⟨_,rfl,?_⟩,trivial⟩
    · refine ej rfl (eC (Xi_ x.book (hb:=by exact⟨hx.1.1,hx.2⟩)) rfl fun w6=>?_);refine veL 7 [14] (by kernel_rfl) ⟨⟨_,rfl,?_⟩,⟨_,rfl,?_⟩,trivial⟩
      · refine ej rfl (eC (So_ x.stock (hs:=by exact hx.1.2.1)) rfl fun w7=>?_);refine veL 10 [14] (by kernel_rfl) ⟨⟨_,rfl,?_⟩,⟨_,rfl,?_⟩,trivial⟩
        · refine ej rfl (eC (Os_ x.notes (hk:=by exact Nat.le_trans hx.1.2.2.1 (by decide))) rfl fun w8=>?_);refine gX C9_ [13] 2 ?_;refine vE 14 rfl (aL C9_ 3 fun b9=>?_);refine vE 15 rfl (sA C9_ ?_);refine vD ?_;refine nX (b9) ?_ ⟨rfl,trivial⟩ ⟨rfl,trivial⟩;exact⟨w6,w7,w8⟩
        refine ej rfl (aL C9_ 3 fun b10=>?_);refine vE 10 rfl (eC (Os_ x.notes (hk:=by exact Nat.le_trans hx.1.2.2.1 (by decide))) rfl fun w11=>?_);refine gX C9_ [13] 1 ?_;refine vE 15 rfl (sA C9_ ?_);refine vD ?_;refine nX (b10) ?_ ⟨rfl,trivial⟩ ⟨rfl,trivial⟩;exact⟨w6,w7,w11⟩
      refine ej rfl (aL C9_ 3 fun b12=>?_);refine vE 7 rfl (eC (So_ x.stock (hs:=by exact hx.1.2.1)) rfl fun w13=>?_);refine vE 10 rfl (eC (Os_ x.notes (hk:=by exact Nat.le_trans hx.1.2.2.1 (by decide))) rfl fun w14=>?_);refine gX C9_ [13] 1 ?_;refine vE 15 rfl (sA C9_ ?_);refine vD ?_;refine nX (b12) ?_ ⟨rfl,trivial⟩ ⟨rfl,trivial⟩;exact⟨w6,w13,w14⟩
    refine ej rfl (aL C9_ 3 fun b15=>?_);refine vE 4 rfl (eC (Xi_ x.book (hb:=by exact⟨hx.1.1,hx.2⟩)) rfl fun w16=>?_);refine vE 7 rfl (eC (So_ x.stock (hs:=by exact hx.1.2.1)) rfl fun w17=>?_);refine vE 10 rfl (eC (Os_ x.notes (hk:=by exact Nat.le_trans hx.1.2.2.1 (by decide))) rfl fun w18=>?_);refine gX C9_ [13] 1 ?_;refine vE 15 rfl (sA C9_ ?_);refine vD ?_;refine nX (b15) ?_ ⟨rfl,trivial⟩ ⟨rfl,trivial⟩;exact⟨w16,w17,w18⟩
  generalize hr19:Nu_ x.book=r;generalize hr20:Hx_ x.stock=r1;generalize hr21:Or_ x.notes=r2;rintro b5 ⟨w22,w23,w24⟩;have e25:=e0.trans (Ei_ hr19.symm);have e26:=e25.trans (Ei_ hr20.symm);have e27:=e26.trans (Ei_ hr21.symm);refine gx C9_ 10 ?_;refine loop (ι:=Nat×Nat×Cp_) [6,7,25] [0,1,2] (fun ⟨f,v,x1⟩=>[(26, .int .i64 (v:Int))]) (fun ⟨f,v,x1⟩=>[(3, .box b5 101 (Cp_.pc x1))]) (fun ⟨f,v,x1⟩=>8-v<f/\Hy_ x p at_=Gn_ x f v x1) (fun ⟨f,v,x1⟩=>f) ⟨(8-0+1),0,(⟨p,at_,r,r1,r2,x.seen,(⟨(⟨0,0⟩:Au_),(⟨0,0⟩:Au_),(⟨0,0⟩:Au_),(⟨0,0⟩:Au_),(⟨0,0⟩:Au_),(⟨0,0⟩:Au_),(⟨0,0⟩:Au_),(⟨0,0⟩:Au_)⟩:A8_SpentR)⟩:Cp_)⟩ ⟨rfl,trivial⟩ ⟨rfl,trivial⟩ ?_ ?_
  · exact⟨Nat.lt_succ_self _,e27⟩
  rintro⟨f,v,x1⟩ ⟨hp28_1,hp28_2⟩;obtain⟨f1,rfl⟩:∃ q,f=q+1:=⟨f-1,by omega⟩;have e_f1:=hp28_2.trans (Gn_.eq_2 _ _ _ _);refine gx C9_ 6 ?_;refine cD e_f1 (fun p30 e31=>?_) (fun p36 e37=>?_)
  · refine gx C9_ 7 ?_;refine q1 (qaivA (fun q=>[.int .u64 ((A8.get x.spent q).round), .int .i64 ((A8.get x.spent q).count)]) v C9_ rfl rfl Tryz.underlying57 rfl rfl rfl rfl (by omega) (bw8 rfl rfl rfl rfl rfl rfl rfl rfl)) rfl fun w32=>?_;refine gm C9_ 9 [4] fun B34=>?_;refine q1 (qaia v rfl rfl Tryz.underlying99 sz98 rfl (by omega)) rfl fun w35=>?_;refine ef (Rc_ (sz:=2) (len:=8) (fun q=>Cp_.pc (⟨x1.p,x1.at_,x1.book,x1.stock,x1.notes,x1.seen,(A8.set x1.spent (A8.get x.spent v) q)⟩:Cp_)) v 61 2 0 C9_ rfl rfl rfl rfl rfl rfl rfl rfl rfl (by omega) (bw8 rfl rfl rfl rfl rfl rfl rfl rfl) rfl (bw8 rfl rfl rfl rfl rfl rfl rfl rfl) rfl ?_);refine gy C9_ 7 ?_;refine next ⟨f1,(v+1),(⟨x1.p,x1.at_,x1.book,x1.stock,x1.notes,x1.seen,(A8.set x1.spent (A8.get x.spent v) v)⟩:Cp_)⟩ rfl rfl ⟨rfl,trivial⟩ ⟨rfl,trivial⟩ ?_ ?_
    · (try simp only[]);omega
    exact⟨by (try simp only[]);omega,e31⟩
  refine gm C9_ 12 [] fun _=>?_;exact rt1 rfl rfl (J_ (fun r:Cp_=> .agg (Cp_.pc r)) e37 (ple rfl))
theorem Z3_ (b:BookR) (hb:BkOk b/\BkB b:=by first|assumption|exact hbb):Fn Tryz.prog gb 67 [.agg (BookR.pc b)] (.sl strc (K9_ b)):=by
  refine fC Tryz.func67 C9_ Tryz.ntmps67 fun w N H hG=>?_;have hbk:=hb.1;obtain⟨hb1,hb2,hb3⟩:=hbk;have e0:=K9_.eq_1 b;refine gm C9_ 8 [0] fun B2=>?_;refine ef (bsl 1 strc [[100,105,114,101,99,116],[102,97,110,111,117,116],[116,111,112,105,99],[104,101,97,100,115],[114,101,108,101,97,115,101]] C9_ rfl rfl rfl rfl rfl (fun _=>rfl) rfl (by decide) (by decide) rfl fun u3=>?_);refine gx C9_ 18 ?_;refine sw_own (t:=4) (k:=1) (e:=9) 2 strc rfl rfl ?_;refine loop (ι:=Nat×(List Bs)×Value) [1,2,3,11,12] [0,1] (fun ⟨k,out,u_out⟩=>[(13, .int .i64 (k:Int)),(4, .osl 2)]) (fun ⟨k,out,u_out⟩=>[(2, .arr u_out 1 9 strc out)]) (fun ⟨k,out,u_out⟩=>k<=b.shops.length/\K9_ b=Ek_ b (b.shops.drop k) out/\out.length<=k) (fun ⟨k,out,u_out⟩=>b.shops.length-k) ⟨0,[],(.slice none 0 0)⟩ ⟨rfl,rfl,trivial⟩ ⟨rfl,trivial⟩ ?_ ?_
  · exact⟨Nat.zero_le _,e0,(by first|omega|(simp;done)|(simp;omega))⟩
  rintro⟨k,out,u_out⟩ ⟨hp4_1,hp4_2,hp4_3⟩;refine gx C9_ 6 ?_;refine cn rfl (fun p6=>?_) fun p19=>?_
  · have e7:=A7_ (f:=fun zz=>Ek_ b zz out) hp4_2 (Es_ (by omega)) (Ek_.eq_2 _ _ _ _);have hc8:=getG (xs:=b.shops) (k:=k) (by first|omega|(simp only[List.length_cons,List.length_nil];omega));have hz_hc8:=hb.2.1 (gt b.shops k) (List.mem_of_getElem? hc8);have hy_hc8:=shopE_f hz_hc8.1;have hs_hc8:=hz_hc8.2;refine gx C9_ 6 ?_;refine q1 (qidx C9_ k rfl rfl rfl hc8 rfl rfl rfl rfl) rfl fun w9=>?_;refine gm C9_ 5 [3] fun B11=>?_;refine aN [2,4,5,6,7,8,9] 19 mixd ?_;refine gov C9_ [0,1,2,3,4,5,6,7] 11 rfl (by kernel_rfl) rfl rfl ⟨(by (try simp only[List.length_append,List.length_cons,List.length_nil]);omega),(by (try simp only[List.length_append,List.length_cons,List.length_nil]);omega),trivial⟩ ?_;refine vq 8 (eidx ((gt b.shops k).sort).toNat C9_ rfl rfl rfl rfl rfl rfl rfl (by omega) (by first|omega|(simp only[List.length_cons,List.length_nil];omega))) rfl (by kernel_rfl) rfl fun w12=>?_;refine gX C9_ [12,13] 8 ?_;refine vC 14 rfl (L5_ _) rfl fun w13=>?_;have hB13:=Kj_ ((gt b.shops k).to');have hc15:=getG (xs:=([[100,105,114,101,99,116],[102,97,110,111,117,116],[116,111,112,105,99],[104,101,97,100,115],[114,101,108,101,97,115,101]]:List Bs)) (k:=((gt b.shops k).sort).toNat) (by first|omega|(simp only[List.length_cons,List.length_nil];omega));have hl_hc15:=(by decide +kernel:∀ z∈([[100,105,114,101,99,116],[102,97,110,111,117,116],[116,111,112,105,99],[104,101,97,100,115],[114,101,108,101,97,115,101]]:List Bs),z.length<=20) _ (List.mem_of_getElem? hc15);refine vE 9 rfl (elod1 (i:=1) (.str (gt [[100,105,114,101,99,116],[102,97,110,111,117,116],[116,111,112,105,99],[104,101,97,100,115],[114,101,108,101,97,115,101]] (((gt b.shops k).sort).toNat))) (((gt b.shops k).sort).toNat) 0 C9_ rfl rfl rfl rfl hc15 rfl rfl rfl rfl fun w16=>?_);refine gov C9_ [10,11,15] 3 rfl (by kernel_rfl) rfl rfl ⟨(by (try simp only[List.length_append,List.length_cons,List.length_nil]);omega),(by (try simp only[List.length_append,List.length_cons,List.length_nil]);omega),(by (try simp only[List.length_append,List.length_cons,List.length_nil]);omega),trivial⟩ ?_;refine vE 16 rfl (bsl 4 strc [((((([115,104,111,112,32]++((gt b.shops k).name))++[32])++(gt [[100,105,114,101,99,116],[102,97,110,111,117,116],[116,111,112,105,99],[104,101,97,100,115],[114,101,108,101,97,115,101]] (((gt b.shops k).sort).toNat)))++[32])++(Gg_ ((gt b.shops k).to')))] C9_ rfl rfl rfl rfl rfl (fun _=>rfl) rfl (by decide) (by decide) rfl fun u17=>?_);refine vE 17 rfl (app C9_ [((((([115,104,111,112,32]++((gt b.shops k).name))++[32])++(gt [[100,105,114,101,99,116],[102,97,110,111,117,116],[116,111,112,105,99],[104,101,97,100,115],[114,101,108,101,97,115,101]] (((gt b.shops k).sort).toNat)))++[32])++(Gg_ ((gt b.shops k).to')))] rfl rfl rfl rfl rfl rfl rfl rfl rfl (src_o rfl rfl) (by first|omega|(simp;omega)) rfl fun u18=>?_);refine gX C9_ [18] 0 ?_;refine vD ?_;refine gy C9_ 6 ?_;refine next ⟨(k+1),(out++[((((([115,104,111,112,32]++((gt b.shops k).name))++[32])++(gt [[100,105,114,101,99,116],[102,97,110,111,117,116],[116,111,112,105,99],[104,101,97,100,115],[114,101,108,101,97,115,101]] (((gt b.shops k).sort).toNat)))++[32])++(Gg_ ((gt b.shops k).to')))]),(u18)⟩ rfl rfl ⟨rfl,rfl,trivial⟩ ⟨rfl,trivial⟩ ?_ ?_
    · (try simp only[]);omega
    exact⟨by (try simp only[]);omega,e7,(by (try simp only[List.length_append,List.length_cons,List.length_nil]);omega)⟩
  have e20:=A7_ (f:=fun zz=>Ek_ b zz out) hp4_2 (Et_ (by omega)) (Ek_.eq_1 _ _);refine gx C9_ 15 ?_;refine loop (ι:=Nat×(List Bs)×Value) [2,37,38] [0,1] (fun ⟨k1,out1,u_out1⟩=>[(39, .int .i64 (k1:Int)),(4, .osl 2)]) (fun ⟨k1,out1,u_out1⟩=>[(2, .arr u_out1 1 9 strc out1)]) (fun ⟨k1,out1,u_out1⟩=>k1<=b.binds.length/\K9_ b=Fc_ (b.binds.drop k1) out1/\out1.length<=8+k1) (fun ⟨k1,out1,u_out1⟩=>b.binds.length-k1) ⟨0,out,(u_out)⟩ ⟨rfl,rfl,trivial⟩ ⟨rfl,trivial⟩ ?_ ?_
  · exact⟨Nat.zero_le _,e20,by omega⟩
  rintro⟨k1,out1,u_out1⟩ ⟨hp21_1,hp21_2,hp21_3⟩;refine gx C9_ 6 ?_;refine cn rfl (fun p23=>?_) fun p35=>?_
  · have e24:=A7_ (f:=fun zz=>Fc_ zz out1) hp21_2 (Es_ (by omega)) (Fc_.eq_2 _ _ _);have hc25:=getG (xs:=b.binds) (k:=k1) (by first|omega|(simp only[List.length_cons,List.length_nil];omega));have hz_hc25:=hb.2.2 (gt b.binds k1) (List.mem_of_getElem? hc25);refine gx C9_ 6 ?_;refine q1 (qidx C9_ k1 rfl rfl rfl hc25 rfl rfl rfl rfl) rfl fun w26=>?_;refine gm C9_ 8 [3] fun B28=>?_;refine cV e24 R33_ (Z2_ _) rfl fun r hr29 e31 w30=>?_;have hA31:=bind_len (gt b.binds k1) (by assumption)
    (try rw[<- hr29] at hA31)
    refine ef (bsl 4 strc [r] C9_ rfl rfl rfl rfl rfl (fun _=>rfl) rfl (by decide) (by decide) rfl fun u33=>?_);refine ef (app C9_ [r] rfl rfl rfl rfl rfl rfl rfl rfl rfl (src_o rfl rfl) (by first|omega|(simp;omega)) rfl fun u34=>?_);refine gy C9_ 8 ?_;refine next ⟨(k1+1),(out1++[r]),(u34)⟩ rfl rfl ⟨rfl,rfl,trivial⟩ ⟨rfl,trivial⟩ ?_ ?_
    · (try simp only[]);omega
    exact⟨by (try simp only[]);omega,e31,(by (try simp only[List.length_append,List.length_cons,List.length_nil]);omega)⟩
  have e36:=A7_ (f:=fun zz=>Fc_ zz out1) hp21_2 (Et_ (by omega)) (Fc_.eq_1 _);refine gx C9_ 11 ?_;refine givec 2 rfl ?_;refine gx C9_ 1 ?_;exact rt1 rfl rfl (J_ (fun r:(List Bs)=> .sl strc r) e36 (ple rfl))
abbrev ty88v149:TI:=⟨.agg [(0,1),(1,1)],2,48,[.sl ShopR.pc [], .sl BindR.pc []]⟩
abbrev ty94v149:TI:=⟨.agg [(0,1),(1,1),(2,1),(3,32)],35,552,[.int .u64 0, .int .i64 0, .sl RRowR.pc [], .int .u64 0, .sl Mail.pc [], .int .u64 0, .sl Mail.pc [], .int .u64 0, .sl Mail.pc [], .int .u64 0, .sl Mail.pc [], .int .u64 0, .sl Mail.pc [], .int .u64 0, .sl Mail.pc [], .int .u64 0, .sl Mail.pc [], .int .u64 0, .sl Mail.pc [], .int .u64 0, .sl Mail.pc [], .int .u64 0, .sl Mail.pc [], .int .u64 0, .sl Mail.pc [], .int .u64 0, .sl Mail.pc [], .int .u64 0, .sl Mail.pc [], .int .u64 0, .sl Mail.pc [], .int .u64 0, .sl Mail.pc [], .int .u64 0, .sl Mail.pc []]⟩
abbrev ty97v149:TI:=⟨.agg [(0,1),(1,1)],2,32,[.int .u64 0, .sl NoteR.pc []]⟩
abbrev ty99:TI:=⟨.arr,16,128,[.int .u64 0, .int .i64 0, .int .u64 0, .int .i64 0, .int .u64 0, .int .i64 0, .int .u64 0, .int .i64 0, .int .u64 0, .int .i64 0, .int .u64 0, .int .i64 0, .int .u64 0, .int .i64 0, .int .u64 0, .int .i64 0]⟩
abbrev ty160:TI:=⟨.agg [(0,1),(1,1),(2,1),(3,1)],4,48,[.str [], .int .u64 0, .int .u64 0, .str []]⟩
def tbv149:Tb:=[(3,ty3),(5,ty5),(9,ty9),(22,ty22),(28,ty28),(45,ty45),(54,ty54),(81,ty81),(82,ty82),(84,ty84),(88,ty88v149),(89,ty89),(91,ty91),(92,ty92),(94,ty94v149),(95,ty95),(97,ty97v149),(98,ty98),(99,ty99),(101,ty101),(106,Ns_),(127,Tq_),(144,ty144),(147,ty147),(160,ty160),(161,ty161),(163,ty163)]
theorem Bg_:tbB Tryz.prog tbv149=true:=by kernel_rfl
theorem Yn_ (s:Cp_) (hr:RqOk s:=by assumption):Fn Tryz.prog gb 21 [.agg (Cp_.pc s)] (.sl strc (G9_ s)):=by
  refine fC Tryz.func21 Bg_ Tryz.ntmps21 fun w N H hG=>?_;obtain⟨hpo,hpc,hpn,hbb,hst,hnl,hno⟩:=id hr;have hpl:s.p.places.length<=100000:=by have :=hpo.2.1;omega
  obtain⟨hp1,hp2,hp3,hp4,hp5,hp6,hp7⟩:=id hpo;have hs1:=hst.1;have hs3:=hst.2.2;have e0:=G9_.eq_1 s;have hc3:=getG (xs:=s.p.places) (k:=(s.at_).toNat) (by omega);have hz_hc3:=hpn (gt s.p.places ((s.at_).toNat)) (List.mem_of_getElem? hc3);refine gm Bg_ 13 [0] fun B2=>?_;refine q1 (qidx Bg_ (s.at_).toNat rfl rfl (by omega) hc3 rfl rfl rfl rfl) rfl fun w4=>?_;refine gm Bg_ 6 [1] fun B6=>?_;refine aN [2,3,4,5,6,7] 21 mixd ?_;refine gov Bg_ [0,1,2,3,4,5] 15 rfl (by kernel_rfl) rfl rfl ⟨(by (try simp only[List.length_append,List.length_cons,List.length_nil]);omega),(by (try simp only[List.length_append,List.length_cons,List.length_nil]);omega),trivial⟩ ?_;refine vC 6 rfl (Zw_ _) rfl fun w7=>?_;have hB7:=r3text_len ((gt s.p.places ((s.at_).toNat)).label);refine gov Bg_ [7,8,9,10] 10 rfl (by kernel_rfl) rfl rfl ⟨(by (try simp only[List.length_append,List.length_cons,List.length_nil]);omega),(by (try simp only[List.length_append,List.length_cons,List.length_nil]);omega),trivial⟩ ?_;refine vC 11 rfl (Zz_ _) rfl fun w9=>?_;refine vC 12 rfl (Hk_ _) rfl fun w10=>?_;have hB10:=Hl_ (I3_ s.stock);refine gov Bg_ [13,14,15,16] 4 rfl (by kernel_rfl) rfl rfl ⟨(by (try simp only[List.length_append,List.length_cons,List.length_nil]);omega),(by (try simp only[List.length_append,List.length_cons,List.length_nil]);omega),trivial⟩ ?_;refine vC 17 rfl (Hk_ _) rfl fun w12=>?_;have hB12:=Hl_ ((gt s.p.places ((s.at_).toNat)).bytes);refine gov Bg_ [18] 2 rfl (by kernel_rfl) rfl rfl ⟨(by (try simp only[List.length_append,List.length_cons,List.length_nil]);omega),trivial⟩ ?_;refine vE 19 rfl (bsl 2 strc [((((((([112,108,97,99,101,32]++((gt s.p.places ((s.at_).toNat)).name))++[32])++(J0_ ((gt s.p.places ((s.at_).toNat)).label)))++[32])++(Df_ (I3_ s.stock)))++[32])++(Df_ ((gt s.p.places ((s.at_).toNat)).bytes)))] Bg_ rfl rfl rfl rfl rfl (fun _=>rfl) rfl (by decide) (by decide) rfl fun u14=>?_);refine gX Bg_ [20] 0 ?_;refine vD ?_;refine gx Bg_ 6 ?_;refine cV e0 R26_ (Z3_ _) rfl fun r hr15 e17 w16=>?_;have hA17:=Z4_ (b:=s.book) (by first|assumption|exact hbb.1)
  (try rw[<- hr15] at hA17)
  refine ef (app Bg_ r rfl rfl rfl rfl rfl rfl rfl rfl rfl (src_l rfl (fun _=>rfl)) (by first|omega|(simp;omega)) rfl fun u19=>?_);refine gx Bg_ 14 ?_;refine loop (ι:=Nat×(List Bs)×Value) [1,2,49,50] [0,1] (fun ⟨k,out,u_out⟩=>[(51, .int .i64 (k:Int)),(4, .osl 2)]) (fun ⟨k,out,u_out⟩=>[(2, .arr u_out 1 9 strc out)]) (fun ⟨k,out,u_out⟩=>k<=s.stock.rows.length/\G9_ s=Fy_ s (s.stock.rows.drop k) out/\out.length<=50+k) (fun ⟨k,out,u_out⟩=>s.stock.rows.length-k) ⟨0,([((((((([112,108,97,99,101,32]++((gt s.p.places ((s.at_).toNat)).name))++[32])++(J0_ ((gt s.p.places ((s.at_).toNat)).label)))++[32])++(Df_ (I3_ s.stock)))++[32])++(Df_ ((gt s.p.places ((s.at_).toNat)).bytes)))]++r),(u19)⟩ ⟨rfl,rfl,trivial⟩ ⟨rfl,trivial⟩ ?_ ?_
  · exact⟨Nat.zero_le _,e17,(by (try simp only[List.length_append,List.length_cons,List.length_nil]);omega)⟩
  rintro⟨k,out,u_out⟩ ⟨hp20_1,hp20_2,hp20_3⟩;refine gx Bg_ 6 ?_;refine cnd rfl (fun h21=>?_) (fun h21=>?_)
  · have p22:=dt h21;have e23:=A7_ (f:=fun zz=>Fy_ s zz out) hp20_2 (Es_ (by omega)) (Fy_.eq_2 _ _ _ _);have hc24:=getG (xs:=s.stock.rows) (k:=k) (by omega);have hz_hc24:=hst.2.1 (gt s.stock.rows k) (List.mem_of_getElem? hc24);refine gx Bg_ 6 ?_;refine q1 (qidx Bg_ k rfl rfl rfl hc24 rfl rfl rfl rfl) rfl fun w25=>?_;refine gm Bg_ 5 [3] fun B27=>?_;refine aN [2,4,5,6,7,8,9] 36 mixd ?_;refine gov Bg_ [0,1,2,3,4,5,6,7,8] 27 rfl (by kernel_rfl) rfl rfl ⟨(by (try simp only[List.length_append,List.length_cons,List.length_nil]);omega),(by (try simp only[List.length_append,List.length_cons,List.length_nil]);omega),trivial⟩ ?_;refine vC 9 rfl (Hk_ _) rfl fun w28=>?_;have hB28:=Hl_ (((gt s.stock.rows k).l).length:Int);refine gov Bg_ [10,11,12,13,14] 21 rfl (by kernel_rfl) rfl rfl ⟨(by (try simp only[List.length_append,List.length_cons,List.length_nil]);omega),(by (try simp only[List.length_append,List.length_cons,List.length_nil]);omega),trivial⟩ ?_;refine vC 15 rfl (Hj_ _) rfl fun w30=>?_;have hB30:=De_ ((gt s.stock.rows k).q.most);refine gov Bg_ [16,17,18,19,20,21,22] 13 rfl (by kernel_rfl) rfl rfl ⟨(by (try simp only[List.length_append,List.length_cons,List.length_nil]);omega),(by (try simp only[List.length_append,List.length_cons,List.length_nil]);omega),trivial⟩ ?_;refine vC 23 rfl (Yj_ _) rfl fun w32=>?_;have hB32:=r18rdy_b ((gt s.stock.rows k).l);refine gXy Bg_ [24] 11 ?_;refine vC 25 rfl (Hk_ _) rfl fun w34=>?_;have hB34:=Hl_ ((((gt s.stock.rows k).l).length:Int)-(Gr_ ((gt s.stock.rows k).l)));refine gov Bg_ [26,27,28,29,30] 5 rfl (by kernel_rfl) rfl rfl ⟨(by (try simp only[List.length_append,List.length_cons,List.length_nil]);omega),(by (try simp only[List.length_append,List.length_cons,List.length_nil]);omega),trivial⟩ ?_;refine vC 31 rfl (L5_ _) rfl fun w36=>?_;have hB36:=Kj_ ((gt s.stock.rows k).q.dead);refine gov Bg_ [32] 3 rfl (by kernel_rfl) rfl rfl ⟨(by (try simp only[List.length_append,List.length_cons,List.length_nil]);omega),trivial⟩ ?_;refine vE 33 rfl (bsl 4 strc [((((((((([113,117,101,117,101,32]++((gt s.stock.rows k).q.name))++[32])++(Df_ (((gt s.stock.rows k).l).length:Int)))++[32])++(decB ((gt s.stock.rows k).q.most)))++[32])++(Df_ ((((gt s.stock.rows k).l).length:Int)-(Gr_ ((gt s.stock.rows k).l)))))++[32])++(Gg_ ((gt s.stock.rows k).q.dead)))] Bg_ rfl rfl rfl rfl rfl (fun _=>rfl) rfl (by decide) (by decide) rfl fun u38=>?_);refine vE 34 rfl (app Bg_ [((((((((([113,117,101,117,101,32]++((gt s.stock.rows k).q.name))++[32])++(Df_ (((gt s.stock.rows k).l).length:Int)))++[32])++(decB ((gt s.stock.rows k).q.most)))++[32])++(Df_ ((((gt s.stock.rows k).l).length:Int)-(Gr_ ((gt s.stock.rows k).l)))))++[32])++(Gg_ ((gt s.stock.rows k).q.dead)))] rfl rfl rfl rfl rfl rfl rfl rfl rfl (src_o rfl rfl) (by first|omega|(simp;omega)) rfl fun u39=>?_);refine gX Bg_ [35] 0 ?_;refine vD ?_;refine gy Bg_ 6 ?_;refine next ⟨(k+1),(out++[((((((((([113,117,101,117,101,32]++((gt s.stock.rows k).q.name))++[32])++(Df_ (((gt s.stock.rows k).l).length:Int)))++[32])++(decB ((gt s.stock.rows k).q.most)))++[32])++(Df_ ((((gt s.stock.rows k).l).length:Int)-(Gr_ ((gt s.stock.rows k).l)))))++[32])++(Gg_ ((gt s.stock.rows k).q.dead)))]),(u39)⟩ rfl rfl ⟨rfl,rfl,trivial⟩ ⟨rfl,trivial⟩ ?_ ?_
    · (try simp only[]);omega
    exact⟨by (try simp only[]);omega,e23,(by (try simp only[List.length_append,List.length_cons,List.length_nil]);omega)⟩
  have p40:=df h21;have e41:=A7_ (f:=fun zz=>Fy_ s zz out) hp20_2 (Et_ (by omega)) (Fy_.eq_1 _ _);refine gx Bg_ 15 ?_;refine loop (ι:=Nat×(List Bs)×Nat×Value) [1,2,93] [0,1] (fun ⟨f,out1,v,u_out1⟩=>[(4, .osl 2),(94, .int .i64 (v:Int))]) (fun ⟨f,out1,v,u_out1⟩=>[(2, .arr u_out1 1 9 strc out1)]) (fun ⟨f,out1,v,u_out1⟩=>16-v<f/\G9_ s=Ha_ s f out1 v/\out1.length<=60+v/\v<=16) (fun ⟨f,out1,v,u_out1⟩=>f) ⟨(16-0+1),out,0,(u_out)⟩ ⟨rfl,rfl,trivial⟩ ⟨rfl,trivial⟩ ?_ ?_
  · exact⟨Nat.lt_succ_self _,e41,⟨by omega,by omega⟩⟩
  rintro⟨f,out1,v,u_out1⟩ ⟨hp42_1,hp42_2,hp42_3⟩;obtain⟨f1,rfl⟩:∃ q,f=q+1:=⟨f-1,by omega⟩;have e_f1:=hp42_2.trans (Ha_.eq_2 _ _ _ _);refine gx Bg_ 6 ?_;refine cD e_f1 (fun p44 e45=>?_) (fun p62 e63=>?_)
  · refine gx Bg_ 7 ?_;refine q1 (qaivA (fun q=>[.int .u64 ((A16.get s.stock.rises q).total), .sl Mail.pc ((A16.get s.stock.rises q).kept)]) v Bg_ rfl rfl Tryz.underlying92 rfl rfl rfl rfl (by omega) (bw16 rfl rfl rfl rfl rfl rfl rfl rfl rfl rfl rfl rfl rfl rfl rfl rfl)) rfl fun w46=>?_;refine gm Bg_ 12 [3] fun B48=>?_;refine cD e45 (fun p50 e51=>?_) (fun p60 e61=>?_)
    · refine aN [2,4,5,6,7,8,9] 20 mixd ?_;refine gX Bg_ [0,1,2,3] 16 ?_;refine vC 4 rfl (Mw_ _ _) rfl fun w52=>?_;have hB52:=Mx_ s.p (v:Int) (by first|assumption|exact⟨hpl,by omega,hpn⟩);refine gov Bg_ [5,6,7,8] 11 rfl (by kernel_rfl) rfl rfl ⟨(by (try simp only[List.length_append,List.length_cons,List.length_nil]);omega),(by (try simp only[List.length_append,List.length_cons,List.length_nil]);omega),trivial⟩ ?_;refine vC 9 rfl (Hj_ _) rfl fun w54=>?_;have hB54:=De_ ((A16.get s.stock.rises v).total);refine gov Bg_ [10,11,12,13,14] 5 rfl (by kernel_rfl) rfl rfl ⟨(by (try simp only[List.length_append,List.length_cons,List.length_nil]);omega),(by (try simp only[List.length_append,List.length_cons,List.length_nil]);omega),trivial⟩ ?_;refine vC 15 rfl (Hk_ _) rfl fun w56=>?_;have hB56:=Hl_ (((A16.get s.stock.rises v).kept).length:Int);refine gov Bg_ [16] 3 rfl (by kernel_rfl) rfl rfl ⟨(by (try simp only[List.length_append,List.length_cons,List.length_nil]);omega),trivial⟩ ?_;refine vE 17 rfl (bsl 4 strc [((((([114,105,115,101,32]++(Eo_ s.p (v:Int)))++[32])++(decB ((A16.get s.stock.rises v).total)))++[32])++(Df_ (((A16.get s.stock.rises v).kept).length:Int)))] Bg_ rfl rfl rfl rfl rfl (fun _=>rfl) rfl (by decide) (by decide) rfl fun u58=>?_);refine vE 18 rfl (app Bg_ [((((([114,105,115,101,32]++(Eo_ s.p (v:Int)))++[32])++(decB ((A16.get s.stock.rises v).total)))++[32])++(Df_ (((A16.get s.stock.rises v).kept).length:Int)))] rfl rfl rfl rfl rfl rfl rfl rfl rfl (src_o rfl rfl) (by first|omega|(simp;omega)) rfl fun u59=>?_);refine gX Bg_ [19] 0 ?_;refine vD ?_;refine gy Bg_ 6 ?_;refine next ⟨f1,(out1++[((((([114,105,115,101,32]++(Eo_ s.p (v:Int)))++[32])++(decB ((A16.get s.stock.rises v).total)))++[32])++(Df_ (((A16.get s.stock.rises v).kept).length:Int)))]),(v+1),(u59)⟩ rfl rfl ⟨rfl,rfl,trivial⟩ ⟨rfl,trivial⟩ ?_ ?_
      · (try simp only[]);omega
      exact⟨by (try simp only[]);omega,e51,⟨(by (try simp only[List.length_append,List.length_cons,List.length_nil]);omega),by omega⟩⟩
    refine gy Bg_ 7 ?_;refine next ⟨f1,out1,(v+1),(u_out1)⟩ rfl rfl ⟨rfl,rfl,trivial⟩ ⟨rfl,trivial⟩ ?_ ?_
    · (try simp only[]);omega
    exact⟨by (try simp only[]);omega,e61,⟨(by (try simp only[List.length_append,List.length_cons,List.length_nil]);omega),by omega⟩⟩
  refine gx Bg_ 14 ?_;refine loop (ι:=Nat×(List Bs)×Nat×Value) [1,2,122] [0,1] (fun ⟨f2,out2,v1,u_out2⟩=>[(4, .osl 2),(123, .int .i64 (v1:Int))]) (fun ⟨f2,out2,v1,u_out2⟩=>[(2, .arr u_out2 1 9 strc out2)]) (fun ⟨f2,out2,v1,u_out2⟩=>16-v1<f2/\G9_ s=Fz_ s f2 out2 v1/\out2.length<=80+v1/\v1<=16) (fun ⟨f2,out2,v1,u_out2⟩=>f2) ⟨(16-0+1),out1,0,(u_out1)⟩ ⟨rfl,rfl,trivial⟩ ⟨rfl,trivial⟩ ?_ ?_
  · exact⟨Nat.lt_succ_self _,e63,⟨by omega,by omega⟩⟩
  rintro⟨f2,out2,v1,u_out2⟩ ⟨hp64_1,hp64_2,hp64_3⟩;obtain⟨f3,rfl⟩:∃ q,f2=q+1:=⟨f2-1,by omega⟩;have e_f3:=hp64_2.trans (Fz_.eq_2 _ _ _ _);refine gx Bg_ 6 ?_;refine cD e_f3 (fun p66 e67=>?_) (fun p82 e83=>?_)
  · refine gx Bg_ 7 ?_;refine q1 (qaiv1 (fun q=> .int .u64 (A16.get s.seen q)) v1 Bg_ rfl rfl Tryz.underlying54 rfl rfl rfl rfl (by omega) (fun _=>rfl) (bw16 rfl rfl rfl rfl rfl rfl rfl rfl rfl rfl rfl rfl rfl rfl rfl rfl)) rfl fun w68=>?_;refine gx Bg_ 10 ?_;refine cD e67 (fun p70 e71=>?_) (fun p80 e81=>?_)
    · refine gx Bg_ 5 ?_;refine cV e71 R33_ (Mw_ _ _) rfl fun r1 hr72 e74 w73=>?_;have hA74:=Mx_ s.p (v1:Int) (by first|assumption|exact⟨hpl,by omega,hpn⟩)
      (try rw[<- hr72] at hA74)
      refine go Bg_ 3 rfl rfl ⟨(by (try simp only[List.length_append,List.length_cons,List.length_nil]);omega),(by (try simp only[List.length_append,List.length_cons,List.length_nil]);omega),trivial⟩ ?_;refine call (Hj_ _) rfl rfl fun w76=>?_;have hB76:=De_ (A16.get s.seen v1);refine go Bg_ 1 rfl rfl ⟨(by (try simp only[List.length_append,List.length_cons,List.length_nil]);omega),trivial⟩ ?_;refine ef (bsl 3 strc [((([115,101,101,110,32]++r1)++[32])++(decB (A16.get s.seen v1)))] Bg_ rfl rfl rfl rfl rfl (fun _=>rfl) rfl (by decide) (by decide) rfl fun u78=>?_);refine ef (app Bg_ [((([115,101,101,110,32]++r1)++[32])++(decB (A16.get s.seen v1)))] rfl rfl rfl rfl rfl rfl rfl rfl rfl (src_o rfl rfl) (by first|omega|(simp;omega)) rfl fun u79=>?_);refine gy Bg_ 8 ?_;refine next ⟨f3,(out2++[((([115,101,101,110,32]++r1)++[32])++(decB (A16.get s.seen v1)))]),(v1+1),(u79)⟩ rfl rfl ⟨rfl,rfl,trivial⟩ ⟨rfl,trivial⟩ ?_ ?_
      · (try simp only[]);omega
      exact⟨by (try simp only[]);omega,e74,⟨(by (try simp only[List.length_append,List.length_cons,List.length_nil]);omega),by omega⟩⟩
    refine gy Bg_ 7 ?_;refine next ⟨f3,out2,(v1+1),(u_out2)⟩ rfl rfl ⟨rfl,rfl,trivial⟩ ⟨rfl,trivial⟩ ?_ ?_
    · (try simp only[]);omega
    exact⟨by (try simp only[]);omega,e81,⟨(by (try simp only[List.length_append,List.length_cons,List.length_nil]);omega),by omega⟩⟩
  refine gx Bg_ 14 ?_;refine loop (ι:=Nat×(List Bs)×Nat×Value) [1,2,143] [0,1] (fun ⟨f4,out3,v2,u_out3⟩=>[(4, .osl 2),(144, .int .i64 (v2:Int))]) (fun ⟨f4,out3,v2,u_out3⟩=>[(2, .arr u_out3 1 9 strc out3)]) (fun ⟨f4,out3,v2,u_out3⟩=>8-v2<f4/\G9_ s=Hb_ s f4 out3 v2/\out3.length<=100+v2/\v2<=8) (fun ⟨f4,out3,v2,u_out3⟩=>f4) ⟨(8-0+1),out2,0,(u_out2)⟩ ⟨rfl,rfl,trivial⟩ ⟨rfl,trivial⟩ ?_ ?_
  · exact⟨Nat.lt_succ_self _,e83,⟨by omega,by omega⟩⟩
  rintro⟨f4,out3,v2,u_out3⟩ ⟨hp84_1,hp84_2,hp84_3⟩;obtain⟨f5,rfl⟩:∃ q,f4=q+1:=⟨f4-1,by omega⟩;have e_f5:=hp84_2.trans (Hb_.eq_2 _ _ _ _);refine gx Bg_ 6 ?_;refine cD e_f5 (fun p86 e87=>?_) (fun p111 e112=>?_)
  · refine gx Bg_ 7 ?_;refine q1 (qaivA (fun q=>[.int .u64 ((A8.get s.spent q).round), .int .i64 ((A8.get s.spent q).count)]) v2 Bg_ rfl rfl Tryz.underlying99 rfl rfl rfl rfl (by omega) (bw8 rfl rfl rfl rfl rfl rfl rfl rfl)) rfl fun w88=>?_;refine gm Bg_ 6 [3] fun B90=>?_;refine aN [4,5,6,7,8,9] 23 mixd ?_;refine gXy Bg_ [0,1,2,3,4,5,6,7,8,9,10,11,12,13,14,15] 7 ?_;refine vqg 16 [162,163] rfl (by kernel_rfl) rfl rfl (fun hc=>qidx Bg_ v2 rfl rfl rfl (getG (by first|omega|(simp only[gOf,bl2] at *;omega))) rfl rfl rfl rfl) ⟨(fun hc=>hc),(fun hc=>hc),trivial⟩ rfl fun _=>?_;refine gXy Bg_ [17,18,19,20,21,22] 0 ?_;refine vD ?_;refine gx Bg_ 1 ?_;refine cE e87 (fun h91 e99=>?_) (fun h91 e110=>?_)
    · have h92:=bl h91;have h93:=bl h92;have p94:=dt h93;have h95:=br h92;have p96:=dt h95;have h97:=br h91;have p98:=dt h97;refine aN [2,4,5,6,7,8,9] 25 mixd ?_;refine gX Bg_ [0,1,2,3,4,5,6] 18 ?_;have hc100:=getG (xs:=s.p.grants) (k:=v2) (by omega);have hz_hc100:=hp6 (gt s.p.grants v2) (List.mem_of_getElem? hc100);refine vq 7 (qidx Bg_ v2 rfl rfl rfl hc100 rfl rfl rfl rfl) rfl (by kernel_rfl) rfl fun w101=>?_;refine gX Bg_ [8,9] 15 ?_;refine vC 10 rfl (Mw_ _ _) rfl fun w102=>?_;have hB102:=Mx_ s.p ((gt s.p.grants v2).to') (by first|assumption|exact⟨hpl,by omega,hpn⟩);refine gov Bg_ [11,12,13,14] 10 rfl (by kernel_rfl) rfl rfl ⟨(by (try simp only[List.length_append,List.length_cons,List.length_nil]);omega),(by (try simp only[List.length_append,List.length_cons,List.length_nil]);omega),trivial⟩ ?_;refine vC 15 rfl (Hj_ _) rfl fun w104=>?_;have hB104:=De_ ((A8.get s.spent v2).round);refine gov Bg_ [16,17,18,19] 5 rfl (by kernel_rfl) rfl rfl ⟨(by (try simp only[List.length_append,List.length_cons,List.length_nil]);omega),(by (try simp only[List.length_append,List.length_cons,List.length_nil]);omega),trivial⟩ ?_;refine vC 20 rfl (Hk_ _) rfl fun w106=>?_;have hB106:=Hl_ ((A8.get s.spent v2).count);refine gov Bg_ [21] 3 rfl (by kernel_rfl) rfl rfl ⟨(by (try simp only[List.length_append,List.length_cons,List.length_nil]);omega),trivial⟩ ?_;refine vE 22 rfl (bsl 4 strc [((((([115,112,101,110,116,32]++(Eo_ s.p ((gt s.p.grants v2).to')))++[32])++(decB ((A8.get s.spent v2).round)))++[32])++(Df_ ((A8.get s.spent v2).count)))] Bg_ rfl rfl rfl rfl rfl (fun _=>rfl) rfl (by decide) (by decide) rfl fun u108=>?_);refine vE 23 rfl (app Bg_ [((((([115,112,101,110,116,32]++(Eo_ s.p ((gt s.p.grants v2).to')))++[32])++(decB ((A8.get s.spent v2).round)))++[32])++(Df_ ((A8.get s.spent v2).count)))] rfl rfl rfl rfl rfl rfl rfl rfl rfl (src_o rfl rfl) (by first|omega|(simp;omega)) rfl fun u109=>?_);refine gX Bg_ [24] 0 ?_;refine vD ?_;refine gy Bg_ 6 ?_;refine next ⟨f5,(out3++[((((([115,112,101,110,116,32]++(Eo_ s.p ((gt s.p.grants v2).to')))++[32])++(decB ((A8.get s.spent v2).round)))++[32])++(Df_ ((A8.get s.spent v2).count)))]),(v2+1),(u109)⟩ rfl rfl ⟨rfl,rfl,trivial⟩ ⟨rfl,trivial⟩ ?_ ?_
      · (try simp only[]);omega
      exact⟨by (try simp only[]);omega,e99,⟨(by (try simp only[List.length_append,List.length_cons,List.length_nil]);omega),by omega⟩⟩
    refine gy Bg_ 7 ?_;refine next ⟨f5,out3,(v2+1),(u_out3)⟩ rfl rfl ⟨rfl,rfl,trivial⟩ ⟨rfl,trivial⟩ ?_ ?_
    · (try simp only[]);omega
    exact⟨by (try simp only[]);omega,e110,⟨(by (try simp only[List.length_append,List.length_cons,List.length_nil]);omega),by omega⟩⟩
  refine gx Bg_ 11 ?_;refine call (Hj_ _) rfl rfl fun w113=>?_;have hB113:=De_ s.notes.total;refine go Bg_ 1 rfl rfl ⟨(by (try simp only[List.length_append,List.length_cons,List.length_nil]);omega),trivial⟩ ?_;refine ef (bsl 3 strc [([110,111,116,101,115,32]++(decB s.notes.total))] Bg_ rfl rfl rfl rfl rfl (fun _=>rfl) rfl (by decide) (by decide) rfl fun u115=>?_);refine ef (app Bg_ [([110,111,116,101,115,32]++(decB s.notes.total))] rfl rfl rfl rfl rfl rfl rfl rfl rfl (src_o rfl rfl) (by first|omega|(simp;omega)) rfl fun u116=>?_);refine gx Bg_ 14 ?_;refine loop (ι:=Nat×(List Bs)×Value) [2,206,207] [0,1,3] (fun ⟨k1,out4,u_out4⟩=>[(208, .int .i64 (k1:Int)),(4, .osl 2)]) (fun ⟨k1,out4,u_out4⟩=>[(2, .arr u_out4 1 9 strc out4)]) (fun ⟨k1,out4,u_out4⟩=>k1<=s.notes.kept.length/\G9_ s=F0_ (s.notes.kept.drop k1) out4/\out4.length<=120+k1) (fun ⟨k1,out4,u_out4⟩=>s.notes.kept.length-k1) ⟨0,(out3++[([110,111,116,101,115,32]++(decB s.notes.total))]),(u116)⟩ ⟨rfl,rfl,trivial⟩ ⟨rfl,trivial⟩ ?_ ?_
  · exact⟨Nat.zero_le _,e112,(by (try simp only[List.length_append,List.length_cons,List.length_nil]);omega)⟩
  rintro⟨k1,out4,u_out4⟩ ⟨hp117_1,hp117_2,hp117_3⟩;refine gx Bg_ 6 ?_;refine cn rfl (fun p119=>?_) fun p130=>?_
  · have e120:=A7_ (f:=fun zz=>F0_ zz out4) hp117_2 (Es_ (by omega)) (F0_.eq_2 _ _ _);have hc121:=getG (xs:=s.notes.kept) (k:=k1) (by omega);have hz_hc121:=(hno (gt s.notes.kept k1) (List.mem_of_getElem? hc121)).1;refine gx Bg_ 6 ?_;refine q1 (qidx Bg_ k1 rfl rfl rfl hc121 rfl rfl rfl rfl) rfl fun w122=>?_;refine gm Bg_ 8 [4] fun B124=>?_;refine cV e120 R33_ (Z0_ _) rfl fun r2 hr125 e127 w126=>?_;refine ef (bsl 5 strc [r2] Bg_ rfl rfl rfl rfl rfl (fun _=>rfl) rfl (by decide) (by decide) rfl fun u128=>?_);refine ef (app Bg_ [r2] rfl rfl rfl rfl rfl rfl rfl rfl rfl (src_o rfl rfl) (by first|omega|(simp;omega)) rfl fun u129=>?_);refine gy Bg_ 8 ?_;refine next ⟨(k1+1),(out4++[r2]),(u129)⟩ rfl rfl ⟨rfl,rfl,trivial⟩ ⟨rfl,trivial⟩ ?_ ?_
    · (try simp only[]);omega
    exact⟨by (try simp only[]);omega,e127,(by (try simp only[List.length_append,List.length_cons,List.length_nil]);omega)⟩
  have e131:=A7_ (f:=fun zz=>F0_ zz out4) hp117_2 (Et_ (by omega)) (F0_.eq_1 _);refine gx Bg_ 11 ?_;refine givec 2 rfl ?_;refine gx Bg_ 1 ?_;exact rt1 rfl rfl (J_ (fun r:(List Bs)=> .sl strc r) e131 (ple rfl))
theorem Ym_ (s:Cp_) (kind:Int) (text:Bs) (hk:s.notes.kept.length<=1000:=by omega):Fn Tryz.prog gb 23 [.agg (Cp_.pc s), .int .u8 kind, .str text] (.int .i64 (Ls_ s kind text)):=by
  refine fC Tryz.func23 Bg_ Tryz.ntmps23 fun w N H hG=>?_;have e0:=Ls_.eq_1 s kind text;refine gm Bg_ 22 [0] fun B2=>?_;refine loop (ι:=Nat×Int) [1,2,6,12,13] [0] (fun ⟨k,n⟩=>[(14, .int .i64 (k:Int)),(7, .int .i64 n)]) (fun ⟨k,n⟩=>[]) (fun ⟨k,n⟩=>k<=s.notes.kept.length/\Ls_ s kind text=E0_ kind text (s.notes.kept.drop k) n/\0<=n/\n<=k) (fun ⟨k,n⟩=>s.notes.kept.length-k) ⟨0,0⟩ ⟨rfl,rfl,trivial⟩ trivial ?_ ?_
  · exact⟨Nat.zero_le _,e0,⟨by omega,by omega⟩⟩
  rintro⟨k,n⟩ ⟨hp3_1,hp3_2,hp3_3⟩;refine gx Bg_ 6 ?_;refine cn rfl (fun p5=>?_) fun p18=>?_
  · have e6:=A7_ (f:=fun zz=>E0_ kind text zz n) hp3_2 (Es_ (by omega)) (E0_.eq_2 _ _ _ _ _);have hc7:=getG (xs:=s.notes.kept) (k:=k) (by omega);refine gx Bg_ 6 ?_;refine q1 (qidx Bg_ k rfl rfl rfl hc7 rfl rfl rfl rfl) rfl fun w8=>?_;refine gmy Bg_ 19 [1] fun B10=>?_;refine cE e6 (fun h11 e16=>?_) (fun h11 e17=>?_)
    · have h12:=bl h11;have p13:=dt h12;have h14:=br h11;have p15:=dt h14;refine gy Bg_ 11 ?_;refine next ⟨(k+1),(n+1)⟩ rfl rfl ⟨rfl,rfl,trivial⟩ trivial ?_ ?_
      · (try simp only[]);omega
      exact⟨by (try simp only[]);omega,e16,⟨by omega,by omega⟩⟩
    refine gy Bg_ 7 ?_;refine next ⟨(k+1),n⟩ rfl rfl ⟨rfl,rfl,trivial⟩ trivial ?_ ?_
    · (try simp only[]);omega
    exact⟨by (try simp only[]);omega,e17,⟨by omega,by omega⟩⟩
  have e19:=A7_ (f:=fun zz=>E0_ kind text zz n) hp3_2 (Et_ (by omega)) (E0_.eq_1 _ _ _);refine gx Bg_ 12 ?_;exact rt1 rfl rfl (J_ (fun r:Int=> .int .i64 r) e19 (ple rfl))
def tbv149b:Tb:=[(9,ty9),(35,ty35),(36,ty36),(61,ty61),(73,ty73),(101,ty101)]
theorem Bi_:tbB Tryz.prog tbv149b=true:=by kernel_rfl
theorem l33_ReportLines_ok (p:PolicyR) (place:Int) (l:List DeedR) (kind:Int) (text:Bs):Fn Tryz.prog gb 4 [.agg (PolicyR.pc p), .int .u8 place, .sl DeedR.pc l, .int .u8 kind, .str text] (.bool (G4_ p place l kind text)):=by
  refine fC Tryz.func4 Bi_ Tryz.ntmps4 fun w N H hG=>?_;have e0:=G4_.eq_1 p place l kind text;generalize G4_ p place l kind text=z at e0 ⊢;refine gm Bi_ 9 [0] fun B2=>?_;refine call Xv_ rfl rfl fun w3=>?_;refine gx Bi_ 3 ?_;refine cE e0 (fun h4 e6=>?_) (fun h4 e8=>?_)
  · have h5:=Ds_ h4;refine gx Bi_ 7 ?_;subst e6;exact qr1
  have h7:=D2_ h4;refine gx Bi_ 6 ?_;refine call (l05_May_ok _) rfl rfl fun w9=>?_;refine gx Bi_ 3 ?_;refine callg rfl (fun hc=>(Xt_ _)) rfl ⟨(fun hc=>hc),trivial⟩ rfl rfl fun _=>?_;refine gy Bi_ 9 ?_;refine cE e8 (fun h10 e11=>?_) (fun h10 e20=>?_)
  · refine gx Bi_ 7 ?_;subst e11;exact qr1
  have h12:=orl h10;have h13:=orl h12;have h14:=D2_ h13;obtain⟨hpo,hpl0,hpl1,hsl0,hsl1,hgl,hpn⟩:=l05_may2 h14;have h15:=orr h12;have h16:=D2_ h15;have hb16:=l23_ddl h16
  (try obtain⟨hb16a,hb16b⟩:=hb16)
  have h18:=orr h10;have p19:=df h18;refine gx Bi_ 6 ?_;refine cV e20 R0_ (l23_At_ok _ _) rfl fun r hr21 e23 w22=>?_;have hA23:=at_r p place (by omega)
  (try rw[<- hr21] at hA23)
  have hat:0<=r/\r<p.places.length:=by rw[hr21];exact at_r p place (by omega)
  refine gx Bi_ 7 ?_;refine cV e23 R21_ (M4_ _ _ (hp:=by first|assumption|exact S5_ (by decide +kernel)) (hk:=by first|omega|decide +kernel)) rfl fun r1 hr25 e27 w26=>?_;have hA27:=X8_ (p:=p) (k:=r) (by first|assumption|exact S5_ (by decide +kernel)) (by first|omega|(simp;done)|decide +kernel)
  (try rw[<- hr25] at hA27)
  have hA28:=newB p r
  (try rw[<- hr25] at hA28)
  refine gm Bi_ 13 [1] fun B31=>?_;refine loop (ι:=Nat×B_) [3,4,5,10,11,12,37,38] [0] (fun ⟨k,x⟩=>[(39, .int .i64 (k:Int))]) (fun ⟨k,x⟩=>[(1, .box (B31 0) 61 (B_.pc x))]) (fun ⟨k,x⟩=>k<=l.length/\z=B3_ p kind text r (l.drop k) x/\StOk x/\StB x) (fun ⟨k,x⟩=>l.length-k) ⟨0,r1⟩ ⟨rfl,trivial⟩ ⟨rfl,trivial⟩ ?_ ?_
  · exact⟨Nat.zero_le _,e27,⟨by assumption,by assumption⟩⟩
  rintro⟨k,x⟩ ⟨hp32_1,hp32_2,hp32_3⟩;obtain⟨hi1,hi2⟩:=hp32_3;refine gx Bi_ 6 ?_;refine cn rfl (fun p34=>?_) fun p46=>?_
  · have e35:=A7_ (f:=fun zz=>B3_ p kind text r zz x) hp32_2 (Es_ (by omega)) (B3_.eq_2 _ _ _ _ _ _ _);have hc36:=getG (xs:=l) (k:=k) (by omega);have hy_hc36:=dd_mem (by assumption) hc36;have hx_hc36:=Wt_ (by first|exact w.1|exact w.2.1|exact w.2.2.1|exact w.2.2.2.1) hc36;have hs_hc36:=Wu_ (by first|exact w.1|exact w.2.1|exact w.2.2.1|exact w.2.2.2.1) hc36;have hw_hc36:=Wv_ (by first|exact w.1|exact w.2.1|exact w.2.2.1|exact w.2.2.2.1) hc36;have hc_hc36:=Ws_ (by first|exact w.1|exact w.2.1|exact w.2.2.1|exact w.2.2.2.1) hc36;refine gx Bi_ 6 ?_;refine q1 (qidx Bi_ k rfl rfl rfl hc36 rfl rfl rfl rfl) rfl fun w37=>?_;refine gm Bi_ 8 [2] fun B39=>?_;refine cV e35 R22_ (Hm_ _ _) rfl fun r2 hr40 e42 w41=>?_;have hA42:=do_ok (s:=x) (d:=(gt l k)) (by assumption) (by first|assumption|exact dd1 (by decide +kernel)|exact⟨by first|(simp;done)|omega,by first|(simp;done)|omega,by first|(simp;done)|((try dsimp only);omega),by first|(simp;done)|((try dsimp only);omega)⟩) (by first|assumption|omega|(dsimp only;omega)|decide +kernel)
    (try rw[<- hr40] at hA42)
    have hA43:=doB (s:=x) (d:=(gt l k)) (by assumption) (by assumption) (by assumption) (by assumption) (by assumption) (by assumption)
    (try rw[<- hr40] at hA43)
    refine gmy Bi_ 12 [] fun _=>?_;refine nY ⟨(k+1),r2.1⟩ ⟨rfl,trivial⟩ ⟨rfl,trivial⟩ ?_ ?_
    · (try simp only[]);omega
    exact⟨by (try simp only[]);omega,e42,⟨by assumption,by assumption⟩⟩
  have e47:=A7_ (f:=fun zz=>B3_ p kind text r zz x) hp32_2 (Et_ (by omega)) (B3_.eq_1 _ _ _ _ _);refine gx Bi_ 6 ?_;refine Jn_ (ι:=Nat) [3,4,5,10,11,12] [0,1] (fun b48=>[(15, .own 2 b48 0)]) (fun b48=>[(2, .box b48 101 (Cp_.pc (Hy_ (O_ x) (Gz_ p) r)))]) (fun b48=>PV.wf (.agg (W_.pc (O_ x)))/\PV.wf (.agg (PolicyR.pc (Gz_ p)))/\PV.wf (.agg (Cp_.pc (Hy_ (O_ x) (Gz_ p) r)))) ?_ ?_
  · refine aN [2,3,4,5,6,7,8,9] 8 mixd ?_;refine gX Bi_ [0,2,4] 5 ?_;refine veL 1 [6] (by kernel_rfl) ⟨⟨_,rfl,?_⟩,⟨_,rfl,?_⟩,trivial⟩
    · refine ej rfl (eC (Er_ x) rfl fun w49=>?_);refine veL 3 [6] (by kernel_rfl) ⟨⟨_,rfl,?_⟩,⟨_,rfl,?_⟩,trivial⟩
      · refine ej rfl (eC (Oq_ p) rfl fun w50=>?_);refine veL 5 [6] (by kernel_rfl) ⟨⟨_,rfl,?_⟩,⟨_,rfl,?_⟩,trivial⟩
        · refine ej rfl (eC (Ov_ (O_ x) (Gz_ p) _ (hx:=by exact⟨hi1.1,hi2.1⟩)) rfl fun w51=>?_);refine vE 6 rfl (aL Bi_ 2 fun b52=>?_);refine vE 7 rfl (sA Bi_ ?_);refine vD ?_;refine nZ (b52) ?_ ⟨rfl,trivial⟩ ⟨rfl,trivial⟩;exact⟨w49,w50,w51⟩
        refine ej rfl (aL Bi_ 2 fun b53=>?_);refine vE 5 rfl (eC (Ov_ (O_ x) (Gz_ p) _ (hx:=by exact⟨hi1.1,hi2.1⟩)) rfl fun w54=>?_);refine vE 7 rfl (sA Bi_ ?_);refine vD ?_;refine nZ (b53) ?_ ⟨rfl,trivial⟩ ⟨rfl,trivial⟩;exact⟨w49,w50,w54⟩
      refine ej rfl (aL Bi_ 2 fun b55=>?_);refine vE 3 rfl (eC (Oq_ p) rfl fun w56=>?_);refine vE 5 rfl (eC (Ov_ (O_ x) (Gz_ p) _ (hx:=by exact⟨hi1.1,hi2.1⟩)) rfl fun w57=>?_);refine vE 7 rfl (sA Bi_ ?_);refine vD ?_;refine nZ (b55) ?_ ⟨rfl,trivial⟩ ⟨rfl,trivial⟩;exact⟨w49,w56,w57⟩
    refine ej rfl (aL Bi_ 2 fun b58=>?_);refine vE 1 rfl (eC (Er_ x) rfl fun w59=>?_);refine vE 3 rfl (eC (Oq_ p) rfl fun w60=>?_);refine vE 5 rfl (eC (Ov_ (O_ x) (Gz_ p) _ (hx:=by exact⟨hi1.1,hi2.1⟩)) rfl fun w61=>?_);refine vE 7 rfl (sA Bi_ ?_);refine vD ?_;refine nZ (b58) ?_ ⟨rfl,trivial⟩ ⟨rfl,trivial⟩;exact⟨w59,w60,w61⟩
  generalize hr62:O_ x=r3;generalize hr63:Gz_ p=r4;generalize hr64:Hy_ r3 r4 r=r5;rintro b48 ⟨w65,w66,w67⟩;have e68:=e47.trans (Ei_ hr62.symm);have e69:=e68.trans (Ei_ hr63.symm);have hr63:=hr63.symm;have hA69:=to_sl p
  (try rw[<- hr63] at hA69)
  have e71:=e69.trans (Ei_ hr64.symm);have hr64:=hr64.symm;have hrq:RqOk r5:=by have h:=rq_of (rp_st (s:=x) (p:=p) (a:=r) (x:=r3) hr62.symm hpo hat hpn hi1 hi2);rw[<- hr63,<- hr64] at h;exact h
  refine gx Bi_ 2 ?_;refine aN [3,4,5,6,7,8] 21 mixd ?_;refine gX Bi_ [0,1,2,5] 17 ?_;refine vE 3 rfl (eC (Er_ x) rfl ?_);generalize hr73:O_ x=r6;intro w72;have e74:=e71.trans (Ei_ hr73.symm);refine vE 4 rfl (eC (Mz_ p _ r6 (hr:=by exact rp_st (s:=x) (p:=p) (a:=r) (x:=r6) (by first|exact hr73|exact Eq.symm hr73) hpo hat hpn hi1 hi2)) rfl ?_);generalize hr76:E1_ p r r6=r7;intro w75;have e77:=e74.trans (Ei_ hr76.symm);refine vE 6 rfl (eC (Yn_ r5 (hr:=by exact hrq)) rfl ?_);generalize hr79:G9_ r5=r8;intro w78;have e80:=e77.trans (Ei_ hr79.symm);refine vC 7 rfl (eq_Str _ _) rfl fun w81=>?_;refine gX Bi_ [8,9,11,12,14,15,16] 6 ?_;refine vE 10 rfl (ecallg rfl (fun hc=>(Er_ x)) rfl ⟨(fun hc=>hc),trivial⟩ rfl rfl fun _=>?_);refine vcallg 13 rfl (by kernel_rfl) rfl (fun hc=>(Tf_ (O_ x) _ _ (hk:=by exact Nat.le_trans hi1.1.2.2.1 (by decide)))) rfl rfl ⟨(fun hc=>hc),(fun hc=>hc),(fun hc=>hc),trivial⟩ rfl fun _=>?_;refine vcallg 17 rfl (by kernel_rfl) rfl (fun hc=>(Ym_ r5 _ _ (hk:=by exact Nat.le_trans hrq.2.2.2.2.2.1 (by decide)))) rfl rfl ⟨(fun hc=>hc),(fun hc=>hc),(fun hc=>hc),trivial⟩ rfl fun _=>?_;refine gXy Bi_ [18,19,20] 0 ?_;refine vD ?_;refine gx Bi_ 2 ?_;subst e80;exact qr1
end Go.SW.V
namespace Go.SW
def errD:DataW Unit->Bs
  | .iface _ (.ptr (.agg [.lit (.string b)]))=>b
  |_=>[]
def layE (pt low:Nat):Nat->List (Nat×DataW Unit)->Array Obj->Array Obj
  |_,[],h=>h
  | k,x::l,h=>layE pt low (k+1) l (h.modify x.1 fun
    | .cells _ t frozen=> .cells #[.iface pt (.pointer (some ⟨low+k,0,none⟩))] t frozen
    |o=>o)
noncomputable def laidWE (P:Program) (os:Os) (pt st:Nat) (l e:List (Nat×DataW Unit)):World:=
  let low:=(World.holding P os ⟨#[],#[],[]⟩).heap.size
  let w0:=World.holding P os ⟨(e.map fun x=>Obj.cells #[.string ⟨(errD x.2).toArray⟩] st).toArray,#[],[]⟩
  {w0 with heap:=layE pt low 0 e (List.foldl (fun h x=>h.modify x.1 (layD x.2)) w0.heap l)}
end Go.SW
namespace Go.SW.V
open Go.SW
def U64 (t:Int):Prop:=0<=t/\t<=18446744073709551615
structure Clw (W:Mail->Prop) (K:E_->Prop) (M:B7_->Prop):Prop where
  kp:∀ {k n m},StkOk k->W m->K k->K (Ac_ k n m).1/\W (Ac_ k n m).2.2.1
  kl:∀ {k n},K k->K (Bl_ k n).1
  kr:∀ {k n i},K k->K (T_ k n i).1/\W (T_ k n i).2.1.mail
  kb:∀ {k n i},K k->K (Cc_ k n i).1
  ks:∀ {k p m},W m->K k->K (Ay_ k p m).1
  kw:∀ {k},StkOk k->K k->K (C7_ k)
  kt:∀ {k t},K k->W (L_ k t).2.1
  na:∀ {n x},U64 x.tick->0<=x.kind/\x.kind<=255->M n->M (B9_ n x).1
  wd:∀ {m t l},W m->W ⟨0,m.shop,m.key,m.head,m.body,Jl_ m.due t l,m.hops⟩
  wr:∀ {m},W m->W ⟨0,m.shop,m.key,m.head,m.body,m.due,m.hops⟩
  wb:∀ {m s},W m->W ⟨m.id,s,m.key,m.head,m.body,0,IntKind.wrap .u8 (m.hops+1)⟩
  wp:∀ {m},W m->W ⟨m.id,m.shop,m.key,m.head,m.body,m.due,IntKind.wrap .u8 (m.hops+1)⟩
structure Kw (K:E_->Prop) (M:B7_->Prop) (s0 s:B_):Prop where
  po:s.policy=s0.policy
  pl:s.place=s0.place
  bo:s.x.book=s0.x.book
  k:K s.x.stock
  n:M s.x.notes
section
variable {W:Mail->Prop} {K:E_->Prop} {M:B7_->Prop} (C:Clw W K M) {s0 s:B_}
include C
omit C in
theorem Kw.stock (h:Kw K M s0 s) {k:E_} (hk:K k):Kw K M s0 ⟨⟨s.x.book,k,s.x.notes,s.x.seen,s.x.spent⟩,s.policy,s.place⟩:=⟨h.po,h.pl,h.bo,hk,h.n⟩
theorem Kw.note (h:Kw K M s0 s) {t k:Int} {x:Bs} (ht:U64 t) (hk:0<=k/\k<=255):Kw K M s0 (Be_ s t k x):=⟨h.po,h.pl,h.bo,h.k,C.na ht hk h.n⟩
theorem Kw.spend (h:Kw K M s0 s) {to' t:Int} (ht:U64 t):Kw K M s0 (Bn_ s to' t).1:=by
  unfold Bn_ lt
  let Q:B_×Int->Prop:=fun r=>Kw K M s0 r.1
  refine bt (P:=Q) (fun _=>h) fun _=>?_
  exact lt1E (P:=Q) (fun _=>True) trivial fun x _=>bt (P:=Q) (fun _=>h) fun _=>⟨h.po,h.pl,h.bo,h.k,C.na ht ⟨(by decide :(0:Int)<=2),(by decide :(2:Int)<=255)⟩ h.n⟩
def GnW (W:Mail->Prop) (K:E_->Prop) (M:B7_->Prop) (s0:B_) (r:B_×List OutR×Int×Int):Prop:=Kw K M s0 r.1/\∀ g∈r.2.1,W g.mail
section
variable {m:Mail} {tick:Int} {r:List Bs×List Bs×Int}
theorem send1_w {gone:List OutR} (ht:U64 tick) (hm:W m) (hs:Kw K M s0 s) (hg:∀ g∈gone,W g.mail):∀ (t:List Bs) (n:Int) (x:B_),Kw K M s0 x->GnW W K M s0 (Ab_ s m tick r gone t n x)
  |[],n,x,hx=>⟨hx,hg⟩
  |q::t,n,x,hx=>by
    unfold Ab_ lt
    have h0:∀ e,GnW W K M s0 (s,[],0,e):=fun e=>⟨hs,(fun _ h=>by cases h)⟩
    refine lp1E (P:=GnW W K M s0) (Kw K M s0) ?_ fun y hy=>?_
    · refine bt (P:=LoP _ _) (fun _=>?_) fun _=>hx
      exact bt (P:=LoP _ _) (fun _=>h0 _) fun _=>Kw.spend C hx ht
    · exact bt (P:=GnW W K M s0) (fun _=>h0 _) fun _=>send1_w ht hm hs hg t _ _ (hy.stock (C.ks (C.wr hm) hy.k))
theorem Wd_ (ht:U64 tick) (hm:W m) (hs:Kw K M s0 s) (h0:0<=m.hops):∀ (t:List Bs) (gone:List OutR) (n:Int) (x:B_),(∀ g∈gone,W g.mail)->StOk x->Kw K M s0 x->GnW W K M s0 (I_ s m tick r t gone n x)
  |[],gone,n,x,hg,_,hx=>by
    unfold I_
    exact send1_w C ht hm hs hg _ _ _ hx
  |q::t,gone,n,x,hg,ho,hx=>by
    unfold I_ lt
    refine bt (P:=GnW W K M s0) (fun _=>Wd_ ht hm hs h0 t _ _ x hg ho hx) fun _=>?_
    have hw:=C.wd (t:=tick) (l:=(V_ x.x.stock q).1.life) hm
    generalize Jl_ m.due tick (V_ x.x.stock q).1.life=due at hw ⊢
    have hp:=(Sa_ (s:=x.x.stock) (n:=q) (m:=⟨0,m.shop,m.key,m.head,m.body,due,m.hops⟩) ho.stk h0).1
    have hk:=C.kp (n:=q) (m:=⟨0,m.shop,m.key,m.head,m.body,due,m.hops⟩) ho.stk hw hx.k
    refine bt (P:=GnW W K M s0) (fun _=>⟨hs,(fun _ h=>by cases h)⟩) fun _=>?_
    refine bt (P:=GnW W K M s0) (fun _=>Wd_ ht hm hs h0 t _ _ _ (fun g q=>?_) (At_ ho hp) (hx.stock hk.1)) fun _=>Wd_ ht hm hs h0 t _ _ _ hg (At_ ho hp) (hx.stock hk.1)
    rcases List.mem_append.1 q with q|q
    · exact hg g q
    · rw[List.mem_singleton.1 q];exact hk.2
theorem send_w (ht:U64 tick) (ho:StOk s) (hs:Kw K M s0 s) (hm:W m) (h0:0<=m.hops):GnW W K M s0 (H_ s m tick):=by
  unfold H_ lt
  exact bt (P:=GnW W K M s0) (fun _=>⟨hs,(fun _ h=>by cases h)⟩) fun _=>Wd_ C ht hm hs h0 _ _ _ _ (fun _ h=>by cases h) ho hs
end
theorem U0_ {tick:Int} (ht:U64 tick):∀ (f:Nat) (gone:List OutR) (lost:Int) (x:B_),Qu_ gone lost x->wtk x.x.stock+wto gone<f->(∀ g∈gone,W g.mail)->Kw K M s0 x->Kw K M s0 (A3_ tick f gone lost x).1
  |0,_,_,_,_,h,_,_=>by omega
  |f+1,gone,lost,x,hI,hf,hg,hx=>by
    unfold A3_ lt
    let Q:B_×Int->Prop:=fun r=>Kw K M s0 r.1
    refine bt (P:=Q) (fun e=>?_) fun _=>hx
    have hn:0<gone.length:=by simpa using e
    have hd:∀ g∈gone.drop 1,W g.mail:=fun g q=>hg g (List.mem_of_mem_drop q)
    refine bt (P:=Q) (fun _=>U0_ ht f _ _ _ (Pl_ hI hn) (Rl_ hn hf) hd hx) fun _=>?_
    have hm:MlOk (gt gone 0).mail:=hI.2.1 _ (Ij_ hn)
    refine bt (P:=Q) (fun _=>?_) fun e4=>?_
    · have h:=Ik_ (s:=x) (t:=tick) (k:=1) (x:=(gt gone 0).queue) hI.1
      exact U0_ ht f _ _ _ (Pm_ hI h.1 h.2 hn) (T2_ h.2 hn hf) hd (Kw.note C hx ht (by decide))
    · simp only[Bool.or_eq_false_iff,decide_eq_false_iff_not,Bool.not_eq_false',decide_eq_true_eq] at e4
      have hs:=Js_ (s:=x) (m:=⟨(D_ (gt gone 0).mail).id,(V_ x.x.stock (gt gone 0).queue).1.dead,(D_ (gt gone 0).mail).key,(D_ (gt gone 0).mail).head,(D_ (gt gone 0).mail).body,0,IntKind.wrap .u8 ((D_ (gt gone 0).mail).hops+1)⟩) (tick:=tick) hI.1 (I1_ _)
      have hw:=send_w C (tick:=tick) ht hI.1 hx (C.wb (m:=D_ (gt gone 0).mail) (s:=(V_ x.x.stock (gt gone 0).queue).1.dead) (hg _ (Ij_ hn))) (I1_ _)
      refine U0_ ht f _ _ _ (Pn_ hI hs.1 hs.2.1 hn rfl hm e4.1 hs.2.2 rfl e4.2) (Rm_ hn hf rfl hm e4.1 hs.2.2 rfl e4.2) (fun g q=>?_) hw.1
      rcases List.mem_append.1 (List.mem_of_mem_drop q) with q|q
      · exact hg g q
      · exact hw.2 g q
theorem bury_v {gone:List OutR} {tick:Int} (ht:U64 tick) (h:StOk s) (hg:gone.length<=600/\∀ g∈gone,MlOk g.mail) (hw:∀ g∈gone,W g.mail) (hs:Kw K M s0 s):Kw K M s0 (A2_ s gone tick).1:=
  U0_ C ht _ gone 0 s (buryI0 h hg) (Nat.lt_succ_self _) hw hs
section
variable {d:DeedR}
theorem settle_w (ht:U64 d.tick) (h:StOk s) (hs:Kw K M s0 s):Kw K M s0 (Bf_ s d).1:=by
  unfold Bf_ lt
  let Q:B_×X_×Int->Prop:=fun r=>Kw K M s0 r.1
  refine bt (P:=Q) (fun _=>hs) fun _=>?_
  refine bt (P:=Q) (fun _=>hs.stock (C.kb hs.k)) fun _=>?_
  have hr:=H9_ (n:=d.name) (id:=d.id) h.stk
  have hk:=C.kr (n:=d.name) (i:=d.id) hs.k
  refine bt (P:=Q) (fun _=>bury_v C ht (At_ h hr.1) ⟨by simp,fun g hg=>?_⟩ (fun g hg=>?_) (hs.stock hk.1)) fun _=>hs.stock hk.1
  · rw[List.mem_singleton.1 hg];exact hr.2
  · rw[List.mem_singleton.1 hg];exact hk.2
theorem late_w0 {t:Int} (ht:U64 t):∀ (f:Nat) (gone:List OutR) (x:B_),StOk x->(∀ g∈gone,MlOk g.mail)->(∀ g∈gone,W g.mail)->gone.length+nik x.x.stock<=512->nik x.x.stock<f->Kw K M s0 x->Kw K M s0 (Bu_ t f gone x).1
  |0,_,_,_,_,_,_,h,_=>by omega
  |f+1,gone,x,h,hg,hw,hl,hf,hs=>by
    unfold Bu_ lt
    let Q:B_×X_->Prop:=fun r=>Kw K M s0 r.1
    refine bt (P:=Q) (fun _=>bury_v C ht h ⟨by omega,hg⟩ hw hs) fun e=>?_
    have e':(L_ x.x.stock t).2.2=true:=by simpa using e
    have hr:=H9_ (n:=(L_ x.x.stock t).1) (id:=(L_ x.x.stock t).2.1.id) h.stk
    refine late_w0 ht f _ _ (At_ h hr.1) (fun g q=>?_) (fun g q=>?_) (Vw_ h.stk rfl e' rfl hl) (Vx_ h.stk rfl e' rfl hf) (hs.stock (C.kr hs.k).1)
    · rcases List.mem_append.1 q with q|q
      · exact hg g q
      · rw[List.mem_singleton.1 q];exact Q7_ h.stk
    · rcases List.mem_append.1 q with q|q
      · exact hw g q
      · rw[List.mem_singleton.1 q];exact C.kt hs.k
theorem late_w {t:Int} (ht:U64 t) (h:StOk s) (hs:Kw K M s0 s):Kw K M s0 (Dv_ s t).1:=
  late_w0 C ht _ [] s h (fun _ h=>by cases h) (fun _ h=>by cases h) (by have :=nik_r h.stk;simpa using this) (Nat.lt_succ_self _) hs
theorem put_w (ht:U64 d.tick) (h:StOk s) (h0:0<=d.mail.hops) (hm:W d.mail) (hs:Kw K M s0 s):Kw K M s0 (Ce_ s d).1:=by
  unfold Ce_ lt
  let Q:B_×X_×Int->Prop:=fun r=>Kw K M s0 r.1
  have h1:=Js_ (s:=s) (m:=D_ d.mail) (tick:=d.tick) h h0
  have hl:=J1_ (s:=s) (m:=D_ d.mail) (tick:=d.tick) h
  have hw:=send_w C (m:=D_ d.mail) (tick:=d.tick) ht h hs hm h0
  exact bt (P:=Q) (fun _=>hs) fun _=>bury_v C ht h1.1 ⟨by omega,h1.2.1⟩ hw.2 hw.1
theorem lend_w (hs:Kw K M s0 s):Kw K M s0 (Bm_ s d).1:=by
  unfold Bm_ lt
  let Q:B_×X_×Int->Prop:=fun r=>Kw K M s0 r.1
  refine bt (P:=Q) (fun _=>hs) fun _=>?_
  exact bt (P:=Q) (fun _=>hs) fun _=>hs.stock (C.kl hs.k)
theorem pull_w (ht:U64 d.tick) (h:StOk s) (hm:W d.mail) (hs:Kw K M s0 s):Kw K M s0 (Bx_ s d).1:=by
  unfold Bx_ lt
  let Q:B_×X_×Int->Prop:=fun r=>Kw K M s0 r.1
  refine bt (P:=Q) (fun _=>hs) fun _=>bt (P:=Q) (fun _=>hs) fun _=>bt (P:=Q) (fun _=>hs) fun _=>?_
  let I:B_->Prop:=fun x=>StOk x/\Kw K M s0 x
  have h2:Kw K M s0 (⟨(⟨s.x.book,s.x.stock,s.x.notes,(A16.set s.x.seen d.number ((d.frm).toNat)),s.x.spent⟩:W_),s.policy,s.place⟩:B_):=⟨hs.po,hs.pl,hs.bo,hs.k,hs.n⟩
  refine lt1E (P:=Q) I ?_ fun x hx=>?_
  · exact bt (P:=I) (fun _=>⟨(Ik_ (B2_ h)).1,Kw.note C h2 ht (by decide)⟩) fun _=>⟨B2_ h,h2⟩
  · refine bt (P:=Q) (fun _=>Kw.note C hx.2 ht (by decide)) fun _=>?_
    have h1:=Js_ (s:=x) (m:=⟨(D_ d.mail).id,(D_ d.mail).shop,(D_ d.mail).key,(D_ d.mail).head,(D_ d.mail).body,(D_ d.mail).due,IntKind.wrap .u8 ((D_ d.mail).hops+1)⟩) (tick:=d.tick) hx.1 (I1_ _)
    have hl:=J1_ (s:=x) (m:=⟨(D_ d.mail).id,(D_ d.mail).shop,(D_ d.mail).key,(D_ d.mail).head,(D_ d.mail).body,(D_ d.mail).due,IntKind.wrap .u8 ((D_ d.mail).hops+1)⟩) (tick:=d.tick) hx.1
    have hw:=send_w C (tick:=d.tick) ht hx.1 hx.2 (C.wp (m:=D_ d.mail) hm) (I1_ _)
    exact bury_v C ht h1.1 ⟨by omega,h1.2.1⟩ hw.2 hw.1
theorem do_w (ht:U64 d.tick) (hc:0<=d.code/\d.code<=255) (h:StOk s) (h0:0<=d.mail.hops) (hm:W d.mail) (hs:Kw K M s s):(Aj_ s d).1=s\/Kw K M s (Aj_ s d).1\/(Aj_ s d).1=(Az_ s d).1\/(Aj_ s d).1=(Bb_ s d).1:=by
  unfold Aj_ lt
  let Q:B_×X_×Int->Prop:=fun r=>r.1=s\/Kw K M s r.1\/r.1=(Az_ s d).1\/r.1=(Bb_ s d).1
  refine bt (P:=Q) (fun e=> .inl rfl) fun _=>?_
  let I:Int×B_×X_->Prop:=fun r=>Kw K M s r.2.1\/r.2.1=(Az_ s d).1\/r.2.1=(Bb_ s d).1
  refine lt3E (P:=Q) I ?_ fun a b c hb=>bt (P:=Q) (fun e=> .inl rfl) fun e=> .inr hb
  refine lt1E (P:=I) (fun v:Bool=>True) trivial fun v hv=>?_
  refine bt (P:=I) (fun e=> .inr (.inl rfl)) fun _=>bt (P:=I) (fun e=> .inl (put_w C ht h h0 hm hs)) fun _=>bt (P:=I) (fun e=> .inl (lend_w C hs)) fun _=>bt (P:=I) (fun e=> .inl (settle_w C ht h hs)) fun _=>bt (P:=I) (fun e=> .inl (late_w C ht h hs)) fun _=>bt (P:=I) (fun e=> .inl (pull_w C ht h hm hs)) fun _=>?_
  refine bt (P:=I) (fun _=> .inl (Kw.note C (s:=⟨⟨s.x.book,C7_ s.x.stock,s.x.notes,s.x.seen,s.x.spent⟩,s.policy,s.place⟩) (hs.stock (C.kw h.stk hs.k)) ht (by decide))) fun _=>bt (P:=I) (fun _=> .inl ⟨rfl,rfl,rfl,hs.k,C.na ht hc hs.n⟩) fun _=> .inr (.inr rfl)
end
end
def Wm (m:Mail):Prop:=∀ p∈m.head,p.wf
def LW (l:List ItemR):Prop:=∀ x∈l,Wm x.mail
def KW (k:E_):Prop:=(∀ r∈k.rows,LW r.l.items)/\∀ i,i<16->∀ m∈(k.rises.get i).kept,Wm m
theorem wm0 {a d h:Int} {s k b:Bs}:Wm ⟨a,s,k,[],b,d,h⟩:=fun _ h=>by cases h
theorem lw_nil:LW []:=fun _ h=>by cases h
theorem lw_gt {l:List ItemR} (h:LW l) (k:Nat):Wm (gt l k).mail:=by
  by_cases q:k<l.length
  · exact h _ (Ij_ q)
  · have :gt l k=default:=by unfold gt;rw[List.getD_eq_getElem?_getD,List.getElem?_eq_none (by omega)];rfl
    rw[this];exact wm0
theorem X4_ {l:List ItemR} (h:LW l) (k:Nat) (a b:Bool):LW (l.set k ⟨(gt l k).mail,a,b⟩):=fun x hx=>by
  rcases List.mem_or_eq_of_mem_set hx with e|e
  · exact h x e
  · rw[e];exact lw_gt h k
theorem lw_td {l:List ItemR} (h:LW l) (a b:Nat):LW [l.take a,l.drop b].flatten:=fun x hx=>h x (X6_ hx)
theorem lw_rem {l:LineR} (h:LW l.items) (id:Int):LW (Ae_ l id).1.items/\Wm (Ae_ l id).2.1.mail:=by
  unfold Ae_ lt
  let Q:LineR×ItemR×Int->Prop:=fun r=>LW r.1.items/\Wm r.2.1.mail
  exact bt (P:=Q) (fun _=>⟨h,wm0⟩) fun _=>⟨lw_td h _ _,lw_gt h _⟩
theorem lw_told {l:LineR} (h:LW l.items) (k:Int):Wm (B4_ l k).1:=by
  unfold B4_ lt
  let Q:Mail×Bool->Prop:=fun r=>Wm r.1
  exact bt (P:=Q) (fun _=>wm0) fun _=>lw_gt h _
theorem lw_lend {l:LineR} (h:LW l.items):LW (Cg_ l).1.items:=by
  unfold Cg_ lt
  let Q:LineR×ItemR×Bool->Prop:=fun r=>LW r.1.items
  exact bt (P:=Q) (fun _=>h) fun _=>X4_ h _ _ _
theorem lw_back {l:LineR} (h:LW l.items) (id:Int):LW (Dh_ l id).1.items:=by
  unfold Dh_ lt
  let Q:LineR×Int->Prop:=fun r=>LW r.1.items
  exact bt (P:=Q) (fun _=>h) fun _=>bt (P:=Q) (fun _=>h) fun _=>X4_ (X4_ h _ _ _) _ _ _
theorem V3_:∀ (t:List ItemR) (k:Nat) (x:LineR),LW x.items->LW (Bk_ t k x).items
  |[],_,_,h=>h
  |y::t,k,x,h=>by
    unfold Bk_
    let Q:LineR->Prop:=fun r=>LW r.items
    exact bt (P:=Q) (fun _=>V3_ t _ _ (X4_ (X4_ h _ _ _) _ _ _)) fun _=>V3_ t _ _ h
theorem lw_add {l:LineR} {m:Mail} (h:LW l.items) (hm:Wm m):LW (Cl_ l m).1.items:=by
  unfold Cl_ Eu_ lt
  let Q:LineR×Int->Prop:=fun r=>LW r.1.items
  refine bt (P:=Q) (fun _=>h) fun _=>fun x hx=>?_
  rcases N2_ hx with q|q
  · exact h x q
  · rw[q];exact hm
theorem Sb_ {k:E_} (h:KW k) (i:Nat):LW (gt k.rows i).l.items:=by
  by_cases q:i<k.rows.length
  · exact h.1 _ (Ij_ q)
  · have :gt k.rows i=default:=by unfold gt;rw[List.getD_eq_getElem?_getD,List.getElem?_eq_none (by omega)];rfl
    rw[this];exact lw_nil
theorem Sc_ {k:E_} (h:KW k) (i:Int) {l:LineR} (hl:LW l.items):KW (Z_ k i l):=by
  refine⟨fun r hr=>?_,h.2⟩
  rcases List.mem_or_eq_of_mem_set hr with e|e
  · exact h.1 r e
  · rw[e];exact hl
theorem kw_wake0:∀ (t:List RowR) (k:Nat) (x:E_),(∀ r∈t,LW r.l.items)->KW x->KW (Bh_ t k x)
  |[],_,_,_,h=>h
  |y::t,k,x,ht,h=>kw_wake0 t (k+1) _ (fun r hr=>ht r (by simp[hr])) (Sc_ h _ (V3_ _ _ _ (ht y (by simp))))
theorem kw_late0 (t:Int):∀ (l:List RowR),(∀ r∈l,LW r.l.items)->Wm (Aa_ t l).2.1
  |[],_=>wm0
  |y::l,h=>by
    unfold Aa_ lt
    let Q:Bs×Mail×Bool->Prop:=fun r=>Wm r.2.1
    refine bt (P:=Q) (fun _=>?_) fun _=>kw_late0 t l fun r hr=>h r (by simp[hr])
    unfold D7_ lt
    exact lw_told (h y (by simp)) _
theorem cloW:Clw Wm KW (fun _=>True) where
  kp:=fun {k n m} _ hm h=>by
    unfold Ac_ lt
    let Q:E_×Int×Mail×Int->Prop:=fun r=>KW r.1/\Wm r.2.2.1
    refine bt (P:=Q) (fun _=>⟨h,wm0⟩) fun _=>bt (P:=Q) (fun _=>⟨h,wm0⟩) fun _=>bt (P:=Q) (fun _=>⟨h,wm0⟩) fun _=>?_
    refine lp2E (P:=Q) (fun q=>LW q.1.items/\Wm q.2) ?_ fun x x1 hx=>?_
    · refine bt (P:=LoP _ _) (fun _=>bt (P:=LoP _ _) (fun _=>⟨h,wm0⟩) fun _=>?_) fun _=>⟨Sb_ h _,wm0⟩
      refine⟨(lw_rem (Sb_ h _) _).1,?_⟩
      unfold Dl_ lt
      exact lw_told (Sb_ h _) _
    · exact bt (P:=Q) (fun _=>⟨h,wm0⟩) fun _=>bt (P:=Q) (fun _=>⟨h,wm0⟩) fun _=>⟨Sc_ h (K_ k n) (lw_add hx.1 hm),hx.2⟩
  kl:=fun {k n} h=>by
    unfold Bl_ lt
    let Q:E_×ItemR×Bool->Prop:=fun r=>KW r.1
    exact bt (P:=Q) (fun _=>h) fun _=>Sc_ h _ (lw_lend (Sb_ h _))
  kr:=fun {k n i} h=>by
    unfold T_ lt
    let Q:E_×ItemR×Int->Prop:=fun r=>KW r.1/\Wm r.2.1.mail
    exact bt (P:=Q) (fun _=>⟨h,wm0⟩) fun _=>⟨Sc_ h _ (lw_rem (Sb_ h _) _).1,(lw_rem (Sb_ h _) _).2⟩
  kb:=fun {k n i} h=>by
    unfold Cc_ lt
    let Q:E_×Int->Prop:=fun r=>KW r.1
    exact bt (P:=Q) (fun _=>h) fun _=>Sc_ h _ (lw_back (Sb_ h _) _)
  ks:=fun {k p m} hm h=>by
    unfold Ay_ lt
    let Q:E_×Int->Prop:=fun r=>KW r.1
    refine bt (P:=Q) (fun _=>h) fun e=>bt (P:=Q) (fun _=>h) fun _=>bt (P:=Q) (fun _=>h) fun _=>⟨h.1,fun i hi m' hm'=>?_⟩
    simp only[Bool.or_eq_false_iff,decide_eq_false_iff_not] at e
    have hm':m'∈(A16.get (A16.set k.rises (A6_ (A16.get k.rises p.toNat) m).1 p.toNat) i).kept:=hm'
    rw[A16.get_set _ _ _ _ (by omega) hi] at hm'
    split at hm'
    · revert hm'
      unfold A6_
      let R:RiseR×Int->Prop:=fun r=>m'∈r.1.kept->Wm m'
      refine bt (P:=R) (fun _=>h.2 _ (by omega) m') fun _=>bt (P:=R) (fun _=>h.2 _ (by omega) m') fun _=>fun hm'=>?_
      rcases N2_ (List.mem_of_mem_drop hm') with q|q
      · exact h.2 _ (by omega) m' q
      · rw[q];exact hm
    · exact h.2 i hi m' hm'
  kw:=fun {k} _ h=>kw_wake0 _ _ _ h.1 h
  kt:=fun {k t} h=>kw_late0 t _ h.1
  na:=fun _ _ _=>trivial
  wd:=fun h=>h
  wr:=fun h=>h
  wb:=fun h=>h
  wp:=fun h=>h
theorem doW {s:B_} {d:DeedR} (ht:U64 d.tick) (hc:0<=d.code/\d.code<=255) (h:StOk s) (h0:0<=d.mail.hops) (hm:Wm d.mail) (hs:KW s.x.stock):KW (Aj_ s d).1.x.stock:=by
  rcases do_w cloW ht hc h h0 hm (⟨rfl,rfl,rfl,hs,trivial⟩:Kw KW (fun _=>True) s s) with e|e|e|e
  · rw[e];exact hs
  · exact e.k
  · rw[e]
    unfold Az_ lt
    let Q:B_×Int->Prop:=fun r=>KW r.1.x.stock
    have hd:KW (Cd_ s.x.stock d.name).1:=by
      unfold Cd_ lt
      let R:E_×Int->Prop:=fun r=>KW r.1
      exact bt (P:=R) (fun _=>hs) fun _=>⟨fun r hr=>hs.1 r (X6_ hr),hs.2⟩
    refine bt (P:=Q) (fun _=>?_) fun _=>bt (P:=Q) (fun _=>hd) fun _=>hd
    show KW (Bw_ s.x.stock d.queue).1
    unfold Bw_ lt
    let R:E_×Int->Prop:=fun r=>KW r.1
    refine bt (P:=R) (fun _=>hs) fun _=>bt (P:=R) (fun _=>hs) fun _=>bt (P:=R) (fun _=>hs) fun _=>bt (P:=R) (fun _=>hs) fun _=>⟨fun r hr=>?_,hs.2⟩
    rcases N2_ hr with q|q
    · exact hs.1 r q
    · rw[q];exact lw_nil
  · rw[e]
    unfold Bb_ lt
    let Q:B_×Int->Prop:=fun r=>KW r.1.x.stock
    have hb:∀ {b e},Q (⟨⟨b,s.x.stock,s.x.notes,s.x.seen,s.x.spent⟩,s.policy,s.place⟩,e):=hs
    have hn:∀ {e},Q (s,e):=hs
    refine bt (P:=Q) (fun _=>?_) fun _=>?_
    · refine lp0E (P:=Q) (fun _=>True) ?_ fun _=>hb
      refine bt (P:=LoP _ _) (fun _=>?_) fun _=>trivial
      refine bt (P:=LoP _ _) (fun _=>hn) fun _=>?_
      exact bt (P:=LoP _ _) (fun _=>hn) fun _=>trivial
    · refine bt (P:=Q) (fun _=>hb) fun _=>bt (P:=Q) (fun _=>hb) fun _=>?_
      refine lp0E (P:=Q) (fun _=>True) ?_ fun _=>hb
      refine lt1E (P:=LoP _ _) (fun _=>True) trivial fun v _=>?_
      refine bt (P:=LoP _ _) (fun _=>hn) fun _=>?_
      exact bt (P:=LoP _ _) (fun _=>hn) fun _=>trivial
theorem newW (p:PolicyR) (k:Int):KW (Cx_ p k).x.stock:=by
  refine⟨(fun _ h=>by cases h),fun i hi m hm=>?_⟩
  have :∀ i,i<16->(A16.get (Cx_ p k).x.stock.rises i).kept=[]:=bw16 rfl rfl rfl rfl rfl rfl rfl rfl rfl rfl rfl rfl rfl rfl rfl rfl
  rw[this i hi] at hm;cases hm
theorem awake33:Ox_=true:=by decide +kernel
theorem what_eq {k:Int} (h:0<=k/\k<=255):Gh_ k=K8_ k:=by
  have key:∀ n:Nat,n<256->Gh_ (n:Int)=K8_ (n:Int):=by decide +kernel
  obtain⟨n,rfl⟩:∃ n:Nat,k=n:=⟨k.toNat,by omega⟩
  exact key n (by omega)
theorem note_eq {n:NoteR} (h:0<=n.kind/\n.kind<=255):Hc_ n=Pb_ n:=by
  unfold Hc_ Pb_
  rw[what_eq h]
  simp only[joinB,List.append_assoc,List.cons_append,List.nil_append]
  rfl
theorem Qp_ {n:Int} (h0:0<=n) (h1:n<=9223372036854775807):Df_ n=itoB n:=by
  unfold Df_
  rw[Vr_ h0 h1,show IntKind.wrap .u64 n=n by rw[IntKind.wrap_u64];omega]
theorem V7_ (p:PolicyR) {k:Int} (h0:0<=k) (h1:k<=9223372036854775807):Eo_ p k=Bs_ p k:=by
  unfold Eo_ Bs_ lt
  rw[Qp_ h0 h1]
theorem word_eq (s:Bs):Gg_ s=A5_ s:=rfl
theorem l4_eq:∀ (l:List NoteR) (t:List Bs),(∀ n∈l,0<=n.kind/\n.kind<=255)->F0_ l t=Dm_ l t
  |[],_,_=>rfl
  |x::l,t,h=>by
    unfold F0_ Dm_ lt
    rw[note_eq (h x (by simp))]
    exact l4_eq l _ fun n hn=>h n (by simp[hn])
section
variable {p:PolicyR} {a:Int} {x:W_} {s:Cp_}
theorem l3_eq (h1:s.p=p) (h2:s.at_=a) (h5:s.notes=x.notes) (h7:∀ i,i<8->s.spent.get i=x.spent.get i) (hr:RpOk p a x):∀ (f v:Nat) (t:List Bs),Hb_ s f t v=Fe_ p a x f v t
  |0,_,_=>rfl
  |f+1,v,t=>by
    unfold Hb_ Fe_ lt
    rw[h1,h2,h5]
    by_cases hv:v<8
    · have e:decide ((v:Int)<8)=true:=decide_eq_true (by omega)
      rw[e,cond_true,cond_true,h7 v hv]
      have hc:=hr.2.2.2.1.2.2.2 v hv
      rw[Qp_ (n:=(x.spent.get v).count) (by omega) (by omega)]
      cases e2:((decide (0<(x.spent.get v).count) && decide ((v:Int)<(p.grants.length:Int))) && decide ((gt p.grants v).frm=a)) with
      |true=>
        simp only[cond_true]
        simp only[Bool.and_eq_true,decide_eq_true_eq] at e2
        have hg:=hr.1.2.2.2.2.2.1 _ (Ij_ (xs:=p.grants) (k:=v) (by omega))
        have hpl:=hr.1.2.1
        rw[V7_ p (k:=(gt p.grants v).to') hg.2.2.1 (by omega)]
        rw[l3_eq h1 h2 h5 h7 hr f (v+1)]
        congr 1<;>simp only[A0_,joinB,Aq_,List.append_assoc,List.cons_append,List.nil_append]
      |false=>simp only[cond_false];exact l3_eq h1 h2 h5 h7 hr f (v+1) t
    · have e:decide ((v:Int)<8)=false:=decide_eq_false (by omega)
      rw[e,cond_false,cond_false]
      rw[l4_eq _ _ fun n hn=>(hr.2.2.2.2.2.2 n hn).2]
      simp only[A0_,joinB,Aq_,E2_,E8_,List.append_assoc,List.cons_append,List.nil_append]
theorem l2_eq (h1:s.p=p) (h2:s.at_=a) (h5:s.notes=x.notes) (h6:s.seen=x.seen) (h7:∀ i,i<8->s.spent.get i=x.spent.get i) (hr:RpOk p a x):∀ (f v:Nat) (t:List Bs),Fz_ s f t v=Fd_ p a x f v t
  |0,_,_=>rfl
  |f+1,v,t=>by
    unfold Fz_ Fd_ lt
    rw[h1,h6,l3_eq h1 h2 h5 h7 hr]
    by_cases hv:v<16
    · have e:decide ((v:Int)<16)=true:=decide_eq_true (by omega)
      rw[e,cond_true,cond_true,V7_ p (k:=(v:Int)) (by omega) (by omega)]
      cases decide (0<x.seen.get v) with
      |true=>
        simp only[cond_true]
        rw[l2_eq h1 h2 h5 h6 h7 hr f (v+1)]
        congr 1<;>simp only[A0_,joinB,Aq_,List.append_assoc,List.cons_append,List.nil_append]
      |false=>simp only[cond_false];exact l2_eq h1 h2 h5 h6 h7 hr f (v+1) t
    · have e:decide ((v:Int)<16)=false:=decide_eq_false (by omega)
      rw[e,cond_false,cond_false]
theorem l1_eq (h1:s.p=p) (h4:s.stock=Hx_ x.stock) (hr:RpOk p a x):∀ (f v:Nat) (t:List Bs),16-v<f->Ha_ s f t v=Fz_ s (16-0+1) (Do_ p x f v t) 0
  |0,_,_,h=>by omega
  |f+1,v,t,hf=>by
    unfold Ha_ Do_ lt
    rw[h1,h4]
    by_cases hv:v<16
    · have e:decide ((v:Int)<16)=true:=decide_eq_true (by omega)
      have hg:A16.get (Hx_ x.stock).rises v=A16.get x.stock.rises v:=(l21of x.stock).2.2 v hv
      have hR:Bd_ x.stock (v:Int)=A16.get x.stock.rises v:=by
        unfold Bd_
        rw[decide_eq_false (show ¬((v:Int)<0) by omega),decide_eq_false (show ¬((16:Int)<=v) by omega)]
        simp
      have hl:=(hr.2.2.2.1.2.1.2.1 v hv).1
      rw[e,cond_true,cond_true,hg,hR,V7_ p (k:=(v:Int)) (by omega) (by omega)]
      dsimp only
      rw[rall_eq,Qp_ (n:=((A16.get x.stock.rises v).kept.length:Int)) (by omega) (by omega)]
      unfold Cb_
      cases decide (0<(A16.get x.stock.rises v).total) with
      |true=>
        simp only[cond_true]
        rw[l1_eq h1 h4 hr f (v+1) _ (by omega)]
        congr 2<;>simp only[A0_,joinB,Aq_,List.append_assoc,List.cons_append,List.nil_append]
      |false=>simp only[cond_false];exact l1_eq h1 h4 hr f (v+1) t (by omega)
    · have e:decide ((v:Int)<16)=false:=decide_eq_false (by omega)
      rw[e,cond_false,cond_false]
theorem rdy_eq:∀ (l:List ItemR) (n:Int),Cy_ l n=Al_ l n
  |[],_=>rfl
  |x::t,n=>by unfold Cy_ Al_;rw[rdy_eq t,rdy_eq t]
theorem rdy_eq' (l:LineR):Gr_ l.items=Bq_ l:=rdy_eq _ _
theorem l0_eq (h1:s.p=p) (h4:s.stock=Hx_ x.stock) (hr:RpOk p a x):∀ (l:List QueueR) (t:List Bs),Fy_ s (l.map (rrow x.stock)) t=Fz_ s (16-0+1) (Cr_ p x l t) 0
  |[],t=>l1_eq h1 h4 hr _ 0 t (by decide)
  |q::l,t=>by
    rw[List.map_cons]
    unfold Fy_ Cr_ lt
    rw[l0_eq h1 h4 hr l]
    congr 2
    have hL:=P4_ (n:=q.name) hr.2.2.2.1.2.1
    have hl:=hL.1
    have hb:=lrdy_b (Ap_ x.stock q.name)
    simp only[rrow]
    rw[rdy_eq',Qp_ (n:=((Ap_ x.stock q.name).items.length:Int)) (by omega) (by omega),Qp_ (n:=((Ap_ x.stock q.name).items.length:Int)-Bq_ (Ap_ x.stock q.name)) (by omega) (by omega)]
    simp only[A0_,joinB,Aq_,word_eq,Bp_,List.append_assoc,List.cons_append,List.nil_append]
end
theorem bind_eq {b:BindR} (h:BiB b):L4_ b=joinB [[98,105,110,100],b.shop,b.to',(bif b.up then [117,112] else [113,117,101,117,101]),A5_ b.key,(bif b.all then [97,108,108] else [97,110,121]),itoB (b.want.length:Int)] [32]:=by
  have :=Mj_ h.2.2.2.1
  unfold L4_ lt1 lt
  rw[Qp_ (n:=(b.want.length:Int)) (by omega) (by omega),word_eq]
  cases b.up<;>cases b.all<;>simp only[cond_true,cond_false,joinB,List.append_assoc,List.cons_append,List.nil_append]
theorem book1_eq:∀ (l:List BindR) (t o:List Bs),(∀ b∈l,BiB b)->C3_ l (t++o)=t++Fc_ l o
  |[],t,o,_=>rfl
  |b::l,t,o,h=>by
    unfold C3_ Fc_ lt lt1
    rw[bind_eq (h b (by simp)),<- book1_eq l t _ fun c hc=>h c (by simp[hc])]
    simp only[A0_,List.append_assoc]
theorem book0_eq (x:W_) (h:∀ b∈x.book.binds,BiB b):∀ (l:List ShopR) (t o:List Bs),Ch_ x l (t++o)=t++Ek_ x.book l o
  |[],t,o=>by
    unfold Ch_ Ek_ lt
    rw[Lw_]
    exact book1_eq _ t o h
  |y::l,t,o=>by
    unfold Ch_ Ek_ lt
    rw[<- book0_eq x h l t]
    simp only[A0_,joinB,word_eq,List.append_assoc,List.cons_append,List.nil_append]
theorem book_eq (x:W_) (h:∀ b∈x.book.binds,BiB b) (t:List Bs):Gk_ t x=t++K9_ x.book:=by
  have :=book0_eq x h x.book.shops t []
  rw[List.append_nil] at this
  exact this
theorem Wf_ (a:LabelR) (h:0<=a.set_/\a.set_<=4294967295):∀ (f v:Nat) (t:Bs),Ge_ a f t v=Dk_ a f t v
  |0,_,_=>rfl
  |f+1,v,t=>by
    unfold Ge_ Dk_
    have hc:N5_ a (v:Int) = decide ((IntKind.wrap .u32 ((BitVec.ofInt (IntKind.bits .u32) (Int.fdiv a.set_ (2 ^ (min ((v:Int):Int).toNat (IntKind.bits .u32)))) &&& BitVec.ofInt (IntKind.bits .u32) 1).toNat))=1):=by
      unfold N5_
      have h0:=has_fd a (v:Int) h.1
      have h1:a.set_.fdiv (2 ^ min (v:Int).toNat IntKind.u32.bits)<=4294967295:=Int.le_trans (Int.fdiv_le_self _ h.1) h.2
      generalize a.set_.fdiv (2 ^ min (v:Int).toNat IntKind.u32.bits)=z at h0 h1 ⊢
      obtain⟨n,rfl⟩:∃ n:Nat,z=n:=⟨z.toNat,by omega⟩
      have e:(BitVec.ofInt (IntKind.bits .u32) (n:Int) &&& BitVec.ofInt (IntKind.bits .u32) 1).toNat=n%2:=by
        rw[BitVec.toNat_and]
        have e1:(BitVec.ofInt (IntKind.bits .u32) (n:Int)).toNat=n:=by
          rw[BitVec.toNat_ofInt]
          show ((n:Int)%(2 ^ 32:Nat)).toNat=n
          omega
        have e2:(BitVec.ofInt (IntKind.bits .u32) 1).toNat=1:=by decide
        rw[e1,e2]
        exact Nat.and_one_is_mod n
      rw[e,IntKind.wrap_u32]
      congr 1
      apply propext
      constructor<;>intro q<;>omega
    rw[hc]
    by_cases hv:v<32
    · have e:decide ((v:Int)<32)=true:=decide_eq_true (by omega)
      rw[e,cond_true,cond_true,Wf_ a h f (v+1),Wf_ a h f (v+1),Vr_ (n:=(v:Int)) (by omega) (by omega)]
      simp only[List.append_assoc]
    · have e:decide ((v:Int)<32)=false:=decide_eq_false (by omega)
      rw[e,cond_false,cond_false]
theorem text_eq (a:LabelR) (h:0<=a.set_/\a.set_<=4294967295) (hl:0<=a.level/\a.level<=255):J0_ a=Ec_ a:=by
  unfold J0_ Ec_
  rw[Vr_ (n:=a.level) (by omega) (by omega)]
  exact Wf_ a h _ _ _
theorem msize_eq {m:Mail} (h:Wm m):H3_ m=Fu_ m:=by
  unfold H3_
  have e2:Fu_ m=((Dy_ m).length:Int):=by simp only[Fu_]
  rw[e2]
  by_cases e:E7_ m=0
  · rw[decide_eq_true e,N1_ e fun p hp=>(h p hp).1.1];rfl
  · rw[decide_eq_false e];unfold Dy_;rw[if_neg e];rfl
theorem lsz_eq0:∀ (l:List ItemR) (n:Int),LW l->D4_ l n=A9_ l n
  |[],_,_=>rfl
  |x::t,n,h=>by
    unfold D4_ A9_ lt
    rw[msize_eq (h x (by simp))]
    exact lsz_eq0 t _ fun y hy=>h y (by simp[hy])
theorem usz_eq0:∀ (l:List Mail) (n:Int),(∀ m∈l,Wm m)->D5_ l n=Ba_ l n
  |[],_,_=>rfl
  |x::t,n,h=>by
    unfold D5_ Ba_ lt
    rw[msize_eq (h x (by simp))]
    exact usz_eq0 t _ fun y hy=>h y (by simp[hy])
theorem Wz_:∀ {l:List RowR} {r:RowR},(l.map (·.q.name)).Nodup->r∈l->l.find? (fun z=>He_ z r.q.name)=some r
  |[],r,_,h=>by cases h
  |y::l,r,hn,h=>by
    rw[List.map_cons,List.nodup_cons] at hn
    rcases List.mem_cons.1 h with e|e
    · rw[e,List.find?_cons];simp[He_]
    · rw[List.find?_cons]
      have :He_ y r.q.name=false:=by
        unfold He_
        rw[decide_eq_false]
        intro q
        exact hn.1 (q ▸ List.mem_map_of_mem (f:=fun r:RowR=>r.q.name) e)
      rw[this]
      exact Wz_ hn.2 e
theorem line_self {s:E_} (h:StkOk s) {r:RowR} (hr:r∈s.rows):Ap_ s r.q.name=r.l:=by
  have hf:=Wz_ h.1.2.2 hr
  unfold Ap_ lt
  by_cases e:K_ s r.q.name<0
  · have :=Q5_ (p:=fun z=>He_ z r.q.name) e
    rw[this] at hf;cases hf
  · dsimp only
    rw[decide_eq_false e,cond_false]
    have hb:=at_b s r.q.name
    have hg:=getG (xs:=s.rows) (k:=(K_ s r.q.name).toNat) (by omega)
    have :=(Vo_ (p:=fun z=>He_ z r.q.name) e hg).2
    rw[this] at hf
    injection hf with hf
    exact congrArg RowR.l hf
theorem ksz1 {s:E_} (hw:KW s):∀ (f:Nat) (n:Int) (v:Nat),Iy_ (Hx_ s) f n v=B6_ s f n v
  |0,_,_=>rfl
  |f+1,n,v=>by
    unfold Iy_ B6_ lt
    by_cases hv:v<16
    · have e:decide ((v:Int)<16)=true:=decide_eq_true (by omega)
      rw[e,cond_true,cond_true,(l21of s).2.2 v hv]
      have :K7_ (A16.get s.rises v)=C2_ (A16.get s.rises v):=usz_eq0 _ _ (hw.2 v hv)
      rw[this]
      exact ksz1 hw f _ _
    · have e:decide ((v:Int)<16)=false:=decide_eq_false (by omega)
      rw[e,cond_false,cond_false]
theorem ksz0 {s:E_} (h:StkOk s) (hw:KW s):∀ (l:List RowR) (n:Int),(∀ r∈l,r∈s.rows)->Gf_ (Hx_ s) (l.map fun r=>rrow s r.q) n=An_ s l n
  |[],n,_=>ksz1 hw _ _ _
  |r::l,n,hl=>by
    rw[List.map_cons]
    unfold Gf_ An_ lt
    have :K6_ (rrow s r.q).l=D8_ r.l:=by
      simp only[rrow]
      rw[line_self h (hl r (by simp))]
      exact lsz_eq0 _ _ (hw.1 r (hl r (by simp)))
    rw[this]
    exact ksz0 h hw l _ fun q hq=>hl q (by simp[hq])
theorem ksz_eq {s:E_} (h:StkOk s) (hw:KW s):I3_ (Hx_ s)=M_ s:=by
  unfold I3_ M_
  rw[(l21of s).2.1]
  exact ksz0 h hw _ _ fun r hr=>hr
theorem lines_eq {p:PolicyR} {a:Int} {x:W_} (hr:RpOk p a x) (hw:KW x.stock) (hL:∀ y∈p.places,(0<=y.label.set_/\y.label.set_<=4294967295)/\0<=y.label.level/\y.label.level<=255):G9_ (Hy_ x (Gz_ p) a)=E1_ p a x:=by
  obtain⟨h1,h2,h3,h4,h5,h6,h7⟩:=l23of x (Gz_ p) a
  have h1:(Hy_ x (Gz_ p) a).p=p:=by rw[h1,to_eq]
  generalize Hy_ x (Gz_ p) a=s at *
  have hk:=hr.2.2.2.1.2.1
  have hsz:=Pw_ x.stock hk
  have ha:(a.toNat:Nat)<p.places.length:=by have :=hr.2.1;omega
  have hpl:=Ij_ ha
  have hby:=hr.1.2.2.2.2.2.2 _ hpl
  unfold G9_ E1_ lt
  dsimp only
  have hm:x.stock.rows.map (fun r=>rrow x.stock r.q)=(x.stock.rows.map (·.q)).map (rrow x.stock):=by rw[List.map_map];rfl
  rw[h4,(l21of x.stock).2.1,hm]
  rw[l0_eq h1 h4 hr,l2_eq h1 h2 h5 h6 h7 hr,book_eq x hr.2.2.2.2.1.2]
  unfold F4_ lt
  dsimp only
  rw[Yg_,h1,h2,h3,ksz_eq hk hw,text_eq _ (hL _ hpl).1 (hL _ hpl).2,Qp_ (n:=M_ x.stock) (by omega) (by omega),Qp_ (n:=(gt p.places a.toNat).bytes) (by omega) (by omega)]
  congr 2
  simp only[A0_,joinB,List.append_assoc,List.cons_append,List.nil_append]
theorem U1_:∀ (k:Int) (t:Bs) (l:List NoteR) (n:Int),E0_ k t l n=C1_ k t l n
  |_,_,[],_=>rfl
  |k,t,x::l,n=>by unfold E0_ C1_;rw[U1_ k t l,U1_ k t l]
theorem Xy_ {p:PolicyR} {a:Int} {k:Int} {t:Bs} (hp:PoOk p) (ha:0<=a/\a<p.places.length) (hn:∀ y∈p.places,y.name.length<=300) (hL:∀ y∈p.places,(0<=y.label.set_/\y.label.set_<=4294967295)/\0<=y.label.level/\y.label.level<=255) :
    ∀ (l:List DeedR) (x:B_),(∀ d∈l,DdOk d/\U64 d.tick/\(0<=d.code/\d.code<=255)/\0<=d.mail.hops/\0<=d.shop.sort/\(∀ p∈d.bind.want,p.wf)/\Wm d.mail)->StOk x->StB x->KW x.x.stock->B3_ p k t a l x=true
  |[],x,_,hs,hb,hw=>by
    unfold B3_ lt
    have hr:=rp_st (x:=O_ x) rfl hp ha hn hs hb
    dsimp only
    rw[lines_eq hr hw hL]
    have hc:Ls_ (Hy_ (O_ x) (Gz_ p) a) k t=Id_ (O_ x) k t:=by
      unfold Ls_ Id_ lt
      rw[(l23of _ _ _).2.2.2.2.1]
      exact U1_ _ _ _ _
    rw[hc];simp
  |d::l,x,hd,hs,hb,hw=>by
    unfold B3_ lt
    obtain⟨d1,d2,d3,d4,d5,d6,d7⟩:=hd d (by simp)
    exact Xy_ hp ha hn hL l _ (fun q hq=>hd q (by simp[hq])) (do_ok hs d1 d4) (doB d3 hs d4 d5 d6 hb) (doW d2 d3 hs d4 d7 hw)
theorem law33_lines (p:PolicyR) (place:Int) (l:List DeedR) (kind:Int) (text:Bs) (hpw:(PV.agg (PolicyR.pc p)).wf) (hw:(PV.sl DeedR.pc l).wf):G4_ p place l kind text=true:=by
  unfold G4_
  rw[awake33,Bool.not_true,cond_false]
  cases hm:Lf_ p with
  |false=>rfl
  |true=>
    cases hl:Kb_ l with
    |false=>rfl
    |true=>
      simp only[Bool.not_true,Bool.false_or]
      let Q:Bool->Prop:=fun r=>r=true
      refine bt (P:=Q) (fun _=>rfl) fun _=>?_
      unfold lt
      obtain⟨h1,h2,_,_,_,_,h7⟩:=l05_may2 hm
      have hat:=at_r p place (by omega)
      have hdd:=l23_ddl hl
      refine Xy_ h1 hat h7 (fun y hy=>?_) l _ (fun d hd=>?_) (X8_ h1 hat) (newB _ _) (newW _ _)
      · have :=hpw.2.2.1.2 y hy
        exact⟨this.2.2.1,this.2.1⟩
      · obtain⟨k,hk⟩:=List.getElem?_of_mem hd
        have hq:=hw.2 d hd
        refine⟨hdd.1.1 d hd,hq.2.1,Ws_ hw hk,Wt_ hw hk,Wu_ hw hk,Wv_ hw hk,fun p hp=>?_⟩
        have :=hq.2.2.2.2.2.2.2.2.2.2.2.2.2.2.2.2.2.2.2.2.2.2.2.2.1
        exact Pair.pwf (this.2 p hp)
end Go.SW.V
