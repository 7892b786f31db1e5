/-
  A part of the proof of SessionPlays: The walks of this seat, printed by program: session.Session.Told, session.Session.plan, session.Session.Plan, session.Session.Takers, session.Session.End, session.Session.Take.
-/
import Derived.Test.YtifcilncaepeoaaGreatDoorProg
import Derived.Test.YtifcilncaepeoaaGreatDoorSessionPlaysP3
import Derived.KernelRfl
import Derived.Test.YtifcilncaepeoaaGreatDoorSessionPlaysP6
import Derived.Test.YtifcilncaepeoaaGreatDoorSessionPlaysP4
set_option linter.unusedVariables false
set_option linter.unusedSimpArgs false
set_option maxRecDepth 100000
set_option maxHeartbeats 4000000
namespace Go.SW.V
open Go.SW Go.Proofs
abbrev R13_:ChanR->PV:=fun r=> .agg (ChanR.pc r)
abbrev R14_:(ChanR×Int×Bool)->PV:=fun r=> .tup [.agg (ChanR.pc r.1), .int .i64 r.2.1, .bool r.2.2]
abbrev R15_:A_->PV:=fun r=> .agg (A_.pc r)
abbrev R16_:(A_×(List Reply))->PV:=fun r=> .tup [.agg (A_.pc r.1), .sl Reply.pc r.2]
abbrev R17_:(A_×(List Reply)×(List DeedR))->PV:=fun r=> .tup [.agg (A_.pc r.1), .sl Reply.pc r.2.1, .sl DeedR.pc r.2.2]
abbrev R18_:(List L_)->PV:=fun r=> .sl L_.pc r
abbrev R19_:(Method×Int)->PV:=fun r=> .tup [.agg (Method.pc r.1), .int .i64 r.2]
abbrev ty73:TI:=⟨.arr,40,520,[.int .i64 0, .sl L_.pc [], .sl LentR.pc [], .bool false, .bool false, .int .u64 0, .sl DeedR.pc [], .bool false, .int .i64 0, .sl L_.pc [], .sl LentR.pc [], .bool false, .bool false, .int .u64 0, .sl DeedR.pc [], .bool false, .int .i64 0, .sl L_.pc [], .sl LentR.pc [], .bool false, .bool false, .int .u64 0, .sl DeedR.pc [], .bool false, .int .i64 0, .sl L_.pc [], .sl LentR.pc [], .bool false, .bool false, .int .u64 0, .sl DeedR.pc [], .bool false, .int .i64 0, .sl L_.pc [], .sl LentR.pc [], .bool false, .bool false, .int .u64 0, .sl DeedR.pc [], .bool false]⟩
abbrev ty82:TI:=⟨.slc 153,1,24,[.sl TakerS.pc []]⟩
abbrev ty86:TI:=⟨.slc 64,1,24,[.sl Method.pc []]⟩
abbrev ty230:TI:=⟨.slc 232,1,24,[.sl Bs_.pc []]⟩
abbrev ty232:TI:=⟨.agg [(0,9),(9,1),(10,1)],11,120,[.int .u64 0, .str [], .str [], .sl Pair.pc [], .str [], .int .u64 0, .int .u8 0, .bool false, .bool false, .int .i64 0, .int .i64 0]⟩
def tbv82:Tb:=[(3,ty3),(4,ty4),(5,ty5),(9,ty9),(25,ty25),(27,ty27),(28,ty28),(32,ty32),(53,ty53),(64,ty64),(70,ty70),(72,ty72),(73,ty73),(75,ty75),(77,ty77),(82,ty82),(86,ty86),(99,ty99),(137,Uw_),(151,ty151),(153,ty153),(154,ty154),(158,Tl_),(230,ty230),(232,ty232)]
theorem tv82:tbB Tryz.prog tbv82=true:=by kernel_rfl
theorem E5_ (s:A_) (m:Method) (l:List Bs_) (e:Int) (hs:SOk s 10000000:=by first|assumption|exact Ff_ (by assumption) (by omega)) (hl:∀ r∈l,r.item.mail.head.length<=1000000:=by first|assumption|simp|exact Ki_ (by simp) (by omega)):Fn Tryz.prog gb 114 [.agg (A_.pc s), .agg (Method.pc m), .sl Bs_.pc l, .int .i64 e] (.tup [.agg (A_.pc ((H_ s m l e).1)), .sl Reply.pc ((H_ s m l e).2)]):=by
  refine fC Tryz.func114 tv82 Tryz.ntmps114 fun w N H hG=>?_;have s_place_l:s.place.length<=9223372036854775807:=w.1.1;have s_feed_rest_l:s.feed.rest.length<=9223372036854775807:=w.1.2.1;have s_feed_err_r:-9223372036854775808<=s.feed.err/\s.feed.err<=9223372036854775807:=w.1.2.2.1;have m_channel_r:0<=m.channel/\m.channel<=255:=w.2.1.1;have m_kind_r:0<=m.kind/\m.kind<=255:=w.2.1.2.1;have m_name_l:m.name.length<=9223372036854775807:=w.2.1.2.2.1;have m_other_l:m.other.length<=9223372036854775807:=w.2.1.2.2.2.1;have m_key_l:m.key.length<=9223372036854775807:=w.2.1.2.2.2.2.1;have m_head_l:m.head.length<=140737488355328:=w.2.1.2.2.2.2.2.1.1;have m_body_l:m.body.length<=9223372036854775807:=w.2.1.2.2.2.2.2.2.1;have m_n_r:0<=m.n/\m.n<=18446744073709551615:=w.2.1.2.2.2.2.2.2.2.1;have m_m_r:0<=m.m/\m.m<=18446744073709551615:=w.2.1.2.2.2.2.2.2.2.2.1;have l_l:l.length<=140737488355328:=w.2.2.1.1;have e_r:-9223372036854775808<=e/\e<=9223372036854775807:=w.2.2.2.1;have e0:=H_.eq_1 s m l e;generalize H_ s m l e=z at e0 ⊢;refine gmy tv82 18 [0,1,2] fun B2=>?_;refine q1g [20,21] rfl (fun hc=>qaia (m.channel).toNat rfl rfl Tryz.underlying73 sz72 (by omega) (by first|omega|(simp only[gOf,bl2] at *;omega))) ⟨(fun hc=>hc),(fun hc=>hc),trivial⟩ rfl rfl rfl fun _=>?_;refine gy tv82 1 ?_;refine q1gL [23] rfl (fun hc=>lyS1 (len:=5) (fun q=> .bool ((A5.get s.slots q).isopen)) ((m.channel).toNat) 5 8 7 tv82 rfl rfl rfl rfl rfl rfl (by first|omega|(simp only[gOf,bl2] at *;omega)) (fun _=>rfl) (bw5 rfl rfl rfl rfl rfl)) ⟨(fun hc=>hc),trivial⟩ rfl rfl fun _=>?_;refine gy tv82 4 ?_;refine cE e0 (fun h5 e6=>?_) (fun h5 e12=>?_)
  · refine gm tv82 9 [] fun _=>?_;subst e6;exact rt2 rfl rfl (Ba_ (B_ (ple rfl) (B_ Ak_ Ag_)))
  have h8:=orl h5;have p9:=df h8;have h10:=orr h5;have h11:=Bf_ h10;refine gx tv82 7 ?_;refine q1 (qaia (m.channel).toNat rfl rfl Tryz.underlying73 sz72 (by omega) (by omega)) rfl fun w13=>?_;refine ef (Iz_ (sz:=8) (len:=5) (fun q=>[.int .i64 ((A5.get s.slots q).chan.credit), .sl L_.pc ((A5.get s.slots q).chan.takers), .sl LentR.pc ((A5.get s.slots q).chan.lent), .bool ((A5.get s.slots q).chan.sure), .bool ((A5.get s.slots q).chan.drafts), .int .u64 ((A5.get s.slots q).chan.puts), .sl DeedR.pc ((A5.get s.slots q).chan.held.l), .bool ((A5.get s.slots q).isopen)]) ((m.channel).toNat) 5 8 0 tv82 rfl rfl rfl rfl rfl rfl rfl (by omega) (bw5 rfl rfl rfl rfl rfl) (bw5 rfl rfl rfl rfl rfl) rfl fun w14=>?_);refine gm tv82 5 [3] fun B16=>?_;obtain⟨o,e_o,q_o⟩:=Wg_ e12;refine Dv_ (ι:=A_×SlotR) [3,4,5,8] [1,2] (fun ⟨x,x1⟩=>[]) (fun ⟨x,x1⟩=>[(0, .box (B2 0) 75 (A_.pc x)),(3, .box (B16 0) 72 (SlotR.pc x1))]) (fun ⟨x,x1⟩=>o = .fin (x,x1)) ?_ ?_
  · refine gx tv82 13 ?_;refine cD e_o (fun p18 e19=>?_) (fun p24 e25=>?_)
    · refine gx tv82 1 ?_;refine aN [2,4,5,6,7,8,9] 7 mixd ?_;refine gX tv82 [0,1,2,3] 3 ?_;refine vE 4 rfl (eC (Jt_ (A5.get s.slots ((m.channel).toNat)) m _) rfl ?_);generalize hr21:Bu_ (A5.get s.slots ((m.channel).toNat)) m e=r;intro w20;have e22:=e19.trans (Aq_ hr21.symm);refine vE 5 rfl (sA tv82 ?_);refine gX tv82 [6] 0 ?_;refine vD ?_;refine gx tv82 5 ?_;have e23:=Kx_ q_o e22;subst e23;exact qr2
    refine gx tv82 6 ?_;refine cD e25 (fun p27 e28=>?_) (fun p73 e74=>?_)
    · refine gx tv82 8 ?_;refine cD e28 (fun p30 e31=>?_) (fun p36 e37=>?_)
      · refine gx tv82 1 ?_;refine Dv_ (ι:=Value) [8] [0,1,3] (fun u32=>[(9, .osl 4)]) (fun u32=>[(2, .box (B2 2) 75 (A_.pc s)),(4, .arr u32 13 137 Reply.pc [(⟨m.channel,4,0,0,false,[],(⟨0,[],[],[],[],0,0⟩:Mail)⟩:Reply)])]) (fun u32=>True) ?_ ?_
        · refine aN [2,4,5,6,7,8,9,10,11] 7 mixd ?_;refine gX tv82 [0,1,2,3] 3 ?_;refine veL 4 [5] (by kernel_rfl) ⟨⟨_,rfl,?_⟩,⟨_,rfl,?_⟩,trivial⟩
          · refine ej rfl (bsl 4 Reply.pc [(⟨m.channel,4,0,0,false,[],(⟨0,[],[],[],[],0,0⟩:Mail)⟩:Reply)] tv82 rfl rfl rfl rfl rfl (fun _=>rfl) rfl (by decide) (by decide) rfl fun u33=>?_);refine vE 5 rfl (sA tv82 ?_);refine gX tv82 [6] 0 ?_;refine vD ?_;refine nX (u33) ?_ ⟨rfl,trivial⟩ ⟨rfl,rfl,trivial⟩;exact trivial
          refine ej rfl (sA tv82 ?_);refine vE 4 rfl (bsl 4 Reply.pc [(⟨m.channel,4,0,0,false,[],(⟨0,[],[],[],[],0,0⟩:Mail)⟩:Reply)] tv82 rfl rfl rfl rfl rfl (fun _=>rfl) rfl (by decide) (by decide) rfl fun u34=>?_);refine gX tv82 [6] 0 ?_;refine vD ?_;refine nX (u34) ?_ ⟨rfl,trivial⟩ ⟨rfl,rfl,trivial⟩;exact trivial
        rintro u32 _;refine gx tv82 1 ?_;refine givec 4 rfl ?_;refine gx tv82 5 ?_;have e35:=Kx_ q_o e31;subst e35;exact qr2
      refine gy tv82 12 ?_;refine cE e37 (fun h38 e43=>?_) (fun h38 e72=>?_)
      · have h39:=bl h38;have p40:=dt h39;have h41:=br h38;have p42:=dt h41;refine gx tv82 1 ?_;refine Dv_ (ι:=Nat×Nat) [8,9] [0,1,2,3] (fun ⟨b44,b45⟩=>[(11, .own 4 b44 0),(12, .own 5 b45 0)]) (fun ⟨b44,b45⟩=>[(4, .box b44 75 (A_.pc ((M_ s (⟨m.channel,256,m.name⟩:TakerS) ((gt l 0).item)).1))),(5, .box b45 137 (Reply.pc ((M_ s (⟨m.channel,256,m.name⟩:TakerS) ((gt l 0).item)).2)))]) (fun ⟨b44,b45⟩=>PV.wf (.tup [.agg (A_.pc ((M_ s (⟨m.channel,256,m.name⟩:TakerS) ((gt l 0).item)).1)), .agg (Reply.pc ((M_ s (⟨m.channel,256,m.name⟩:TakerS) ((gt l 0).item)).2))])) ?_ ?_
        · refine aN [4,5,6,7,8,9,10,11] 18 mixd ?_;refine gX tv82 [0,1,2,3,4,5,6] 11 ?_;have hc46:=getG (xs:=l) (k:=0) (by omega);have hz_hc46:=hl (gt l 0) (List.mem_of_getElem? hc46);refine vq 7 (qidx tv82 0 rfl rfl rfl hc46 rfl rfl rfl rfl) rfl (by kernel_rfl) rfl fun w47=>?_;refine gX tv82 [8,9] 8 ?_;refine veL 10 [14,15] (by kernel_rfl) ⟨⟨_,rfl,?_⟩,⟨_,rfl,?_⟩,⟨_,rfl,?_⟩,trivial⟩
          · refine ej rfl (eC (Co_ s (⟨m.channel,256,m.name⟩:TakerS) ((gt l 0).item)) rfl fun w48=>?_);refine gX tv82 [11,12,13] 4 ?_;refine veL 14 [15] (by kernel_rfl) ⟨⟨_,rfl,?_⟩,⟨_,rfl,?_⟩,trivial⟩
            · refine ej rfl (aL tv82 4 fun b49=>?_);refine vE 15 rfl (aL tv82 5 fun b50=>?_);refine vE 16 rfl (sA tv82 ?_);refine vE 17 rfl (sA tv82 ?_);refine vD ?_;refine nX ⟨(b49),(b50)⟩ ?_ ⟨rfl,rfl,trivial⟩ ⟨rfl,rfl,trivial⟩;exact w48
            refine ej rfl (aL tv82 5 fun b51=>?_);refine vE 14 rfl (aL tv82 4 fun b52=>?_);refine vE 16 rfl (sA tv82 ?_);refine vE 17 rfl (sA tv82 ?_);refine vD ?_;refine nX ⟨(b52),(b51)⟩ ?_ ⟨rfl,rfl,trivial⟩ ⟨rfl,rfl,trivial⟩;exact w48
          · refine ej rfl (aL tv82 4 fun b53=>?_);refine veL 10 [15] (by kernel_rfl) ⟨⟨_,rfl,?_⟩,⟨_,rfl,?_⟩,trivial⟩
            · refine ej rfl (eC (Co_ s (⟨m.channel,256,m.name⟩:TakerS) ((gt l 0).item)) rfl fun w54=>?_);refine gX tv82 [11,12,13] 3 ?_;refine vE 15 rfl (aL tv82 5 fun b55=>?_);refine vE 16 rfl (sA tv82 ?_);refine vE 17 rfl (sA tv82 ?_);refine vD ?_;refine nX ⟨(b53),(b55)⟩ ?_ ⟨rfl,rfl,trivial⟩ ⟨rfl,rfl,trivial⟩;exact w54
            refine ej rfl (aL tv82 5 fun b56=>?_);refine vE 10 rfl (eC (Co_ s (⟨m.channel,256,m.name⟩:TakerS) ((gt l 0).item)) rfl fun w57=>?_);refine gX tv82 [11,12,13] 2 ?_;refine vE 16 rfl (sA tv82 ?_);refine vE 17 rfl (sA tv82 ?_);refine vD ?_;refine nX ⟨(b53),(b56)⟩ ?_ ⟨rfl,rfl,trivial⟩ ⟨rfl,rfl,trivial⟩;exact w57
          refine ej rfl (aL tv82 5 fun b58=>?_);refine veL 10 [14] (by kernel_rfl) ⟨⟨_,rfl,?_⟩,⟨_,rfl,?_⟩,trivial⟩
          · refine ej rfl (eC (Co_ s (⟨m.channel,256,m.name⟩:TakerS) ((gt l 0).item)) rfl fun w59=>?_);refine gX tv82 [11,12,13] 3 ?_;refine vE 14 rfl (aL tv82 4 fun b60=>?_);refine vE 16 rfl (sA tv82 ?_);refine vE 17 rfl (sA tv82 ?_);refine vD ?_;refine nX ⟨(b60),(b58)⟩ ?_ ⟨rfl,rfl,trivial⟩ ⟨rfl,rfl,trivial⟩;exact w59
          refine ej rfl (aL tv82 4 fun b61=>?_);refine vE 10 rfl (eC (Co_ s (⟨m.channel,256,m.name⟩:TakerS) ((gt l 0).item)) rfl fun w62=>?_);refine gX tv82 [11,12,13] 2 ?_;refine vE 16 rfl (sA tv82 ?_);refine vE 17 rfl (sA tv82 ?_);refine vD ?_;refine nX ⟨(b61),(b58)⟩ ?_ ⟨rfl,rfl,trivial⟩ ⟨rfl,rfl,trivial⟩;exact w62
        generalize hr63:M_ s (⟨m.channel,256,m.name⟩:TakerS) ((gt l 0).item)=r1;rintro⟨b44,b45⟩ w64;have e65:=e43.trans (Aq_ hr63.symm);have hr63:=hr63.symm
        (try have hA65:=O5_ (s:=s) (⟨m.channel,256,m.name⟩:TakerS) ((gt l 0).item) (by assumption) (by omega);(try rw[<- hr63] at hA65))
        (try have hA66:=Ri_ s (⟨m.channel,256,m.name⟩:TakerS) ((gt l 0).item) (by omega);(try rw[<- hr63] at hA66))
        refine gx tv82 2 ?_;refine Dv_ (ι:=Value) [8] [0,1,3,4,5] (fun u68=>[(9, .osl 6)]) (fun u68=>[(2, .box (B2 2) 75 (A_.pc (r1.1))),(6, .arr u68 13 137 Reply.pc [(r1.2)])]) (fun u68=>True) ?_ ?_
        · refine aN [2,6,7,8,9,10,11,12,13] 5 mixd ?_;refine gX tv82 [0,1] 3 ?_;refine veL 2 [3] (by kernel_rfl) ⟨⟨_,rfl,?_⟩,⟨_,rfl,?_⟩,trivial⟩
          · refine ej rfl (bsl 6 Reply.pc [(r1.2)] tv82 rfl rfl rfl rfl rfl (fun _=>rfl) rfl (by decide) (by decide) rfl fun u69=>?_);refine vE 3 rfl (sA tv82 ?_);refine gX tv82 [4] 0 ?_;refine vD ?_;refine nX (u69) ?_ ⟨rfl,trivial⟩ ⟨rfl,rfl,trivial⟩;exact trivial
          refine ej rfl (sA tv82 ?_);refine vE 2 rfl (bsl 6 Reply.pc [(r1.2)] tv82 rfl rfl rfl rfl rfl (fun _=>rfl) rfl (by decide) (by decide) rfl fun u70=>?_);refine gX tv82 [4] 0 ?_;refine vD ?_;refine nX (u70) ?_ ⟨rfl,trivial⟩ ⟨rfl,rfl,trivial⟩;exact trivial
        rintro u68 _;refine gx tv82 1 ?_;refine givec 6 rfl ?_;refine gx tv82 5 ?_;have e71:=Kx_ q_o e65;subst e71;exact qr2
      refine gx tv82 3 ?_;refine nX ⟨s,(A5.get s.slots ((m.channel).toNat))⟩ ?_ trivial ⟨rfl,rfl,trivial⟩;exact e72
    refine gx tv82 1 ?_;obtain⟨o1,e_o1,q_o1⟩:=Cc_ e74;refine Dv_ (ι:=Bool) [3,4,5,8,9,10,34] [0,1,2,3] (fun v=>[(77, .bool v)]) (fun v=>[]) (fun v=>o1=v) ?_ ?_
    · refine gx tv82 6 ?_;refine cD e_o1 (fun p76 e77=>?_) (fun p78 e79=>?_)
      · refine gx tv82 1 ?_;refine nX (decide (m.kind=16)) ?_ ⟨rfl,trivial⟩ trivial;exact e77
      refine gx tv82 4 ?_;refine nX (decide (m.kind=19)) ?_ ⟨rfl,trivial⟩ trivial;exact e79
    rintro v hp80;have e81:=D5_ q_o1 hp80;refine gx tv82 1 ?_;refine cE e81 (fun h82 e83=>?_) (fun h82 e111=>?_)
    · refine gx tv82 5 ?_;refine ef (ecallo 4 (Io_ _ _ _) rfl rfl ?_);generalize hr86:A6_ ((A5.get s.slots ((m.channel).toNat)).chan) m 0=r2;intro u85 w84;have e87:=e83.trans (Aq_ hr86.symm);have hr86:=hr86.symm;have hA87:=U3_ ((A5.get s.slots ((m.channel).toNat)).chan) m 0
      (try rw[<- hr86] at hA87)
      refine gx tv82 8 ?_;obtain⟨o2,e_o2,q_o2⟩:=Cc_ e87;refine Dv_ (ι:=SlotR) [3,4,5,8,9,10] [0,1,2] (fun x2=>[]) (fun x2=>[(3, .box (B16 0) 72 (SlotR.pc x2))]) (fun x2=>o2=x2) ?_ ?_
      · refine gx tv82 6 ?_;refine cD e_o2 (fun p90 e91=>?_) (fun p96 e97=>?_)
        · refine gx tv82 4 ?_;refine so_osl (t:=91) 4 rfl rfl ?_;refine so_osl (t:=85) 4 rfl rfl ?_;refine so_osl (t:=13) 4 rfl rfl ?_;refine give 4 rfl ?_;refine cV e91 R13_ (Nb_ _ _ (hn:=by first|omega|exact sok_ln (by assumption) (by omega) (by omega))) rfl fun r3 hr92 e94 w93=>?_;refine gm tv82 3 [] fun _=>?_;refine nX (⟨r3,(A5.get s.slots ((m.channel).toNat)).isopen⟩:SlotR) ?_ trivial ⟨rfl,trivial⟩;exact e94
        refine gx tv82 1 ?_;refine nX (A5.get s.slots ((m.channel).toNat)) ?_ trivial ⟨rfl,trivial⟩;exact e97
      rintro x2 hp98;have e99:=D5_ q_o2 hp98;refine gx tv82 9 ?_;refine cD e99 (fun p101 e102=>?_) (fun p108 e109=>?_)
      · refine gx tv82 3 ?_;refine cV e102 R7_ (Iu_ _) rfl fun r4 hr103 e105 w104=>?_;refine gm tv82 12 [] fun _=>?_;refine q1 (qaia (m.channel).toNat rfl rfl Tryz.underlying73 sz72 (by omega) (by omega)) rfl fun w107=>?_;refine ef (D1_ (sz:=8) (len:=5) (fun q=>A_.pc (⟨s.place,s.feed,s.begun,s.over,(A5.set s.slots (⟨r4.1,x2.isopen⟩:SlotR) q)⟩:A_)) ((m.channel).toNat) 5 8 0 tv82 rfl rfl rfl rfl rfl rfl rfl rfl rfl (by omega) (bw5 rfl rfl rfl rfl rfl) rfl (bw5 rfl rfl rfl rfl rfl) rfl ?_);refine gx tv82 2 ?_;refine nX ⟨(⟨s.place,s.feed,s.begun,s.over,(A5.set s.slots (⟨r4.1,x2.isopen⟩:SlotR) ((m.channel).toNat))⟩:A_),(⟨r4.1,x2.isopen⟩:SlotR)⟩ ?_ trivial ⟨rfl,rfl,trivial⟩;exact e105
      refine gx tv82 7 ?_;refine q1 (qaia (m.channel).toNat rfl rfl Tryz.underlying73 sz72 (by omega) (by omega)) rfl fun w110=>?_;refine ef (D1_ (sz:=8) (len:=5) (fun q=>A_.pc (⟨s.place,s.feed,s.begun,s.over,(A5.set s.slots x2 q)⟩:A_)) ((m.channel).toNat) 5 8 0 tv82 rfl rfl rfl rfl rfl rfl rfl rfl rfl (by omega) (bw5 rfl rfl rfl rfl rfl) rfl (bw5 rfl rfl rfl rfl rfl) rfl ?_);refine gx tv82 2 ?_;refine nX ⟨(⟨s.place,s.feed,s.begun,s.over,(A5.set s.slots x2 ((m.channel).toNat))⟩:A_),x2⟩ ?_ trivial ⟨rfl,rfl,trivial⟩;exact e109
    refine gx tv82 6 ?_;refine cD e111 (fun p113 e114=>?_) (fun p121 e122=>?_)
    · refine gx tv82 6 ?_;refine cD e114 (fun p116 e117=>?_) (fun p119 e120=>?_)
      · refine gx tv82 5 ?_;refine q1 (qaia (m.channel).toNat rfl rfl Tryz.underlying73 sz72 (by omega) (by omega)) rfl fun w118=>?_;refine ef (D1_ (sz:=8) (len:=5) (fun q=>A_.pc (⟨s.place,s.feed,s.begun,s.over,(A5.set s.slots (⟨(⟨0,[],[],false,false,0,(⟨[]⟩:Ap_)⟩:ChanR),false⟩:SlotR) q)⟩:A_)) ((m.channel).toNat) 5 8 0 tv82 rfl rfl rfl rfl rfl rfl rfl rfl rfl (by omega) (bw5 rfl rfl rfl rfl rfl) rfl (bw5 rfl rfl rfl rfl rfl) rfl ?_);refine gx tv82 2 ?_;refine nX ⟨(⟨s.place,s.feed,s.begun,s.over,(A5.set s.slots (⟨(⟨0,[],[],false,false,0,(⟨[]⟩:Ap_)⟩:ChanR),false⟩:SlotR) ((m.channel).toNat))⟩:A_),(A5.get s.slots ((m.channel).toNat))⟩ ?_ trivial ⟨rfl,rfl,trivial⟩;exact e117
      refine gx tv82 2 ?_;refine nX ⟨s,(A5.get s.slots ((m.channel).toNat))⟩ ?_ trivial ⟨rfl,rfl,trivial⟩;exact e120
    refine gx tv82 2 ?_;refine nX ⟨s,(A5.get s.slots ((m.channel).toNat))⟩ ?_ trivial ⟨rfl,rfl,trivial⟩;exact e122
  rintro⟨x,x1⟩ hp123;have e124:=lp2_fin q_o hp123;refine gx tv82 2 ?_;refine aN [2,4,5,6,7,8,9] 6 mixd ?_;refine gX tv82 [0,1,2] 3 ?_;refine vE 3 rfl (eC (Cl_ m _) rfl ?_);generalize hr126:Ab_ m e=r5;intro w125;have e127:=e124.trans (Aq_ hr126.symm);refine vE 4 rfl (sA tv82 ?_);refine gX tv82 [5] 0 ?_;refine vD ?_;refine gx tv82 2 ?_;subst e127;exact qr2
theorem Jp_ (s:A_) (m:Method) (tick:Int) (hs:SOk s 10000000:=by first|assumption|exact Ff_ (by assumption) (by omega)) (hm:m.channel<=4:=by omega) (hh:m.head.length<=1000000:=by omega):Fn Tryz.prog gb 71 [.agg (A_.pc s), .agg (Method.pc m), .int .u64 tick] (.tup [.agg (A_.pc ((F_ s m tick).1)), .sl Reply.pc ((F_ s m tick).2.1), .sl DeedR.pc ((F_ s m tick).2.2)]):=by
  refine fC Tryz.func71 tv82 Tryz.ntmps71 fun w N H hG=>?_;have s_place_l:s.place.length<=9223372036854775807:=w.1.1;have s_feed_rest_l:s.feed.rest.length<=9223372036854775807:=w.1.2.1;have s_feed_err_r:-9223372036854775808<=s.feed.err/\s.feed.err<=9223372036854775807:=w.1.2.2.1;have m_channel_r:0<=m.channel/\m.channel<=255:=w.2.1.1;have m_kind_r:0<=m.kind/\m.kind<=255:=w.2.1.2.1;have m_name_l:m.name.length<=9223372036854775807:=w.2.1.2.2.1;have m_other_l:m.other.length<=9223372036854775807:=w.2.1.2.2.2.1;have m_key_l:m.key.length<=9223372036854775807:=w.2.1.2.2.2.2.1;have m_head_l:m.head.length<=140737488355328:=w.2.1.2.2.2.2.2.1.1;have m_body_l:m.body.length<=9223372036854775807:=w.2.1.2.2.2.2.2.2.1;have m_n_r:0<=m.n/\m.n<=18446744073709551615:=w.2.1.2.2.2.2.2.2.2.1;have m_m_r:0<=m.m/\m.m<=18446744073709551615:=w.2.1.2.2.2.2.2.2.2.2.1;have tick_r:0<=tick/\tick<=18446744073709551615:=w.2.2.1;have hch:COk (A5.get s.slots (m.channel).toNat).chan 10000000:=hs _ (by omega);obtain⟨hc1,hc2,hc3,hc4⟩:=id hch;obtain⟨hcd1,hcd2,hcd3⟩:=id hc4;have e0:=F_.eq_1 s m tick;generalize F_ s m tick=z at e0 ⊢;refine gm tv82 14 [0,1,2] fun B2=>?_;refine q1 (qaia (m.channel).toNat rfl rfl Tryz.underlying73 sz72 (by omega) (by omega)) rfl fun w5=>?_;refine gx tv82 1 ?_;refine ef (Iz_ (sz:=7) (len:=5) (fun q=>[.int .i64 ((A5.get s.slots q).chan.credit), .sl L_.pc ((A5.get s.slots q).chan.takers), .sl LentR.pc ((A5.get s.slots q).chan.lent), .bool ((A5.get s.slots q).chan.sure), .bool ((A5.get s.slots q).chan.drafts), .int .u64 ((A5.get s.slots q).chan.puts), .sl DeedR.pc ((A5.get s.slots q).chan.held.l)]) ((m.channel).toNat) 5 8 0 tv82 rfl rfl rfl rfl rfl rfl rfl (by omega) (bw5 rfl rfl rfl rfl rfl) (bw5 rfl rfl rfl rfl rfl) rfl fun w6=>?_);refine gm tv82 9 [3] fun B8=>?_;refine cV e0 R6_ (Ou_ _ _) rfl fun r hr9 e11 w10=>?_;refine gx tv82 12 ?_;refine cE e11 (fun h12 e13=>?_) (fun h12 e15=>?_)
  · refine gm tv82 11 [] fun _=>?_;subst e13;exact rt3 rfl rfl (Ba_ (B_ (ple rfl) (B_ Ak_ (B_ (ple rfl) Ag_))))
  refine gx tv82 7 ?_;refine cV e15 R14_ (Rr_ _ _) rfl fun r1 hr16 e18 w17=>?_;refine gm tv82 15 [4] fun B20=>?_;refine cE e18 (fun h21 e22=>?_) (fun h21 e29=>?_)
  · refine gx tv82 1 ?_;refine aN [2,5,6,7,8,9,10] 10 mixd ?_;refine gX tv82 [0,1,2,4,5] 5 ?_;refine vE 3 rfl (eC (D2_ s m r1.1) rfl ?_);generalize hr24:R_ s m r1.1=r2;intro w23;have e25:=e22.trans (Aq_ hr24.symm);refine vE 6 rfl (eC (Cl_ m _) rfl ?_);generalize hr27:Ab_ m r1.2.1=r3;intro w26;have e28:=e25.trans (Aq_ hr27.symm);refine vE 7 rfl (sA tv82 ?_);refine gX tv82 [8,9] 0 ?_;refine vD ?_;refine gx tv82 3 ?_;subst e28;exact rt3 rfl rfl (Ba_ (B_ (ple rfl) (B_ (ple rfl) (B_ Ak_ Ag_))))
  refine gx tv82 3 ?_;obtain⟨o,e_o,q_o⟩:=Ni_ e29;refine Dv_ (ι:=Unit) [2,3,4,6,9] [0,1,2,3,4] (fun _=>[]) (fun _=>[]) (fun _=>o = .fin ()) ?_ ?_
  · refine gx tv82 13 ?_;refine cD e_o (fun p31 e32=>?_) (fun p89 e90=>?_)
    · refine gx tv82 4 ?_;refine call (Hp_ _) rfl rfl fun w33=>?_;refine gx tv82 2 ?_;refine cE e32 (fun h34 e35=>?_) (fun h34 e70=>?_)
      · refine gx tv82 1 ?_;refine Dv_ (ι:=Nat) [3,4,6,7,8] [0,1,2,3,4] (fun b36=>[(15, .own 6 b36 0),(16, .int .i64 ((Af_ ((A5.get s.slots ((m.channel).toNat)).chan) [(Bd_ m 0 m.m)]).2))]) (fun b36=>[(6, .box b36 32 (ChanR.pc ((Af_ ((A5.get s.slots ((m.channel).toNat)).chan) [(Bd_ m 0 m.m)]).1)))]) (fun b36=>PV.wf (.agg (DeedR.pc (Bd_ m 0 m.m)))/\PV.wf (.tup [.agg (ChanR.pc ((Af_ ((A5.get s.slots ((m.channel).toNat)).chan) [(Bd_ m 0 m.m)]).1)), .int .i64 ((Af_ ((A5.get s.slots ((m.channel).toNat)).chan) [(Bd_ m 0 m.m)]).2)])) ?_ ?_
        · refine aN [5,6,7,8,9,10,11,12] 13 mixd ?_;refine gX tv82 [0,1,2,3] 9 ?_;refine veL 4 [10] (by kernel_rfl) ⟨⟨_,rfl,?_⟩,⟨_,rfl,?_⟩,trivial⟩
          · refine ej rfl (eC (I1_ m _ _) rfl fun w37=>?_);refine veL 5 [10] (by kernel_rfl) ⟨⟨_,rfl,?_⟩,⟨_,rfl,?_⟩,trivial⟩
            · refine ej rfl (bsl 5 DeedR.pc [(Bd_ m 0 m.m)] tv82 rfl rfl rfl rfl rfl (fun _=>rfl) rfl (by decide) (by decide) rfl fun u38=>?_);refine veL 6 [10] (by kernel_rfl) ⟨⟨_,rfl,?_⟩,⟨_,rfl,?_⟩,trivial⟩
              · refine ej rfl (Lf_ 5 rfl (Me_ (eC (El_ ((A5.get s.slots ((m.channel).toNat)).chan) _ (hx:=by first|omega|exact Vj_ (by assumption) (by omega) (by omega))) rfl fun w39=>?_)));refine gX tv82 [7,8,9] 3 ?_;refine vE 10 rfl (aL tv82 6 fun b40=>?_);refine vE 11 rfl (sA tv82 ?_);refine gX tv82 [12] 0 ?_;refine vD ?_;refine nX (b40) ?_ ⟨rfl,rfl,trivial⟩ ⟨rfl,trivial⟩;exact⟨w37,w39⟩
              refine ej rfl (aL tv82 6 fun b41=>?_);refine vE 6 rfl (Lf_ 5 rfl (Me_ (eC (El_ ((A5.get s.slots ((m.channel).toNat)).chan) _ (hx:=by first|omega|exact Vj_ (by assumption) (by omega) (by omega))) rfl fun w42=>?_)));refine gX tv82 [7,8,9] 2 ?_;refine vE 11 rfl (sA tv82 ?_);refine gX tv82 [12] 0 ?_;refine vD ?_;refine nX (b41) ?_ ⟨rfl,rfl,trivial⟩ ⟨rfl,trivial⟩;exact⟨w37,w42⟩
            refine ej rfl (aL tv82 6 fun b43=>?_);refine vE 5 rfl (bsl 5 DeedR.pc [(Bd_ m 0 m.m)] tv82 rfl rfl rfl rfl rfl (fun _=>rfl) rfl (by decide) (by decide) rfl fun u44=>?_);refine vE 6 rfl (Lf_ 5 rfl (Me_ (eC (El_ ((A5.get s.slots ((m.channel).toNat)).chan) _ (hx:=by first|omega|exact Vj_ (by assumption) (by omega) (by omega))) rfl fun w45=>?_)));refine gX tv82 [7,8,9] 2 ?_;refine vE 11 rfl (sA tv82 ?_);refine gX tv82 [12] 0 ?_;refine vD ?_;refine nX (b43) ?_ ⟨rfl,rfl,trivial⟩ ⟨rfl,trivial⟩;exact⟨w37,w45⟩
          refine ej rfl (aL tv82 6 fun b46=>?_);refine vE 4 rfl (eC (I1_ m _ _) rfl fun w47=>?_);refine vE 5 rfl (bsl 5 DeedR.pc [(Bd_ m 0 m.m)] tv82 rfl rfl rfl rfl rfl (fun _=>rfl) rfl (by decide) (by decide) rfl fun u48=>?_);refine vE 6 rfl (Lf_ 5 rfl (Me_ (eC (El_ ((A5.get s.slots ((m.channel).toNat)).chan) _ (hx:=by first|omega|exact Vj_ (by assumption) (by omega) (by omega))) rfl fun w49=>?_)));refine gX tv82 [7,8,9] 2 ?_;refine vE 11 rfl (sA tv82 ?_);refine gX tv82 [12] 0 ?_;refine vD ?_;refine nX (b46) ?_ ⟨rfl,rfl,trivial⟩ ⟨rfl,trivial⟩;exact⟨w47,w49⟩
        generalize hr50:Bd_ m 0 m.m=r4;generalize hr51:Af_ ((A5.get s.slots ((m.channel).toNat)).chan) [r4]=r5;rintro b36 ⟨w52,w53⟩;have e54:=e35.trans (Aq_ hr50.symm);have e55:=e54.trans (Aq_ hr51.symm);refine gx tv82 8 ?_;refine cD e55 (fun p57 e58=>?_) (fun p64 e65=>?_)
        · refine gx tv82 5 ?_;refine cV e58 R15_ (D2_ _ _ _) rfl fun r6 hr59 e61 w60=>?_;refine gm tv82 11 [] fun _=>?_;have e63:=Ez_ q_o e61;subst e63;exact rt3 rfl rfl (Ba_ (B_ (ple rfl) (B_ Ak_ (B_ Ak_ Ag_))))
        refine gx tv82 3 ?_;refine aN [2,5,7,8,9,10,11] 7 mixd ?_;refine gX tv82 [0,1,2] 4 ?_;refine vE 3 rfl (eC (Cl_ m _) rfl ?_);generalize hr67:Ab_ m r5.2=r7;intro w66;have e68:=e65.trans (Aq_ hr67.symm);refine vE 4 rfl (sA tv82 ?_);refine gX tv82 [5,6] 0 ?_;refine vD ?_;refine gx tv82 6 ?_;have e69:=Ez_ q_o e68;subst e69;exact rt3 rfl rfl (Ba_ (B_ (ple rfl) (B_ (ple rfl) (B_ Ak_ Ag_))))
      refine gx tv82 5 ?_;refine cV e70 R9_ (Nq_ _) rfl fun r8 hr71 e73 w72=>?_;refine gm tv82 7 [] fun _=>?_;refine Dv_ (ι:=Value) [6] [0,1,3,4] (fun u75=>[(7, .val (.slice none 0 0)),(8, .osl 5)]) (fun u75=>[(2, .box (B2 2) 75 (A_.pc (R_ s m r8.1))),(5, .arr u75 29 53 DeedR.pc [(Bd_ m tick (Gc_ tick m.m))])]) (fun u75=>PV.wf (.agg (A_.pc (R_ s m r8.1)))/\PV.wf (.int .u64 (Gc_ tick m.m))/\PV.wf (.agg (DeedR.pc (Bd_ m tick (Gc_ tick m.m))))) ?_ ?_
      · refine aN [2,5,6,7,8,9,10,11,12] 15 mixd ?_;refine gX tv82 [0,1,2,4,5,6,7,8] 7 ?_;refine vE 3 rfl (eC (D2_ s m r8.1) rfl fun w76=>?_);refine vC 9 rfl (K9_ _ _) rfl fun w77=>?_;refine vE 10 rfl (eC (I1_ m _ _) rfl fun w78=>?_);refine veL 11 [12] (by kernel_rfl) ⟨⟨_,rfl,?_⟩,⟨_,rfl,?_⟩,trivial⟩
        · refine ej rfl (bsl 5 DeedR.pc [(Bd_ m tick (Gc_ tick m.m))] tv82 rfl rfl rfl rfl rfl (fun _=>rfl) rfl (by decide) (by decide) rfl fun u79=>?_);refine vE 12 rfl (sA tv82 ?_);refine gX tv82 [13,14] 0 ?_;refine vD ?_;refine nX (u79) ?_ ⟨rfl,rfl,trivial⟩ ⟨rfl,rfl,trivial⟩;exact⟨w76,w77,w78⟩
        refine ej rfl (sA tv82 ?_);refine gX tv82 [13] 2 ?_;refine vE 11 rfl (bsl 5 DeedR.pc [(Bd_ m tick (Gc_ tick m.m))] tv82 rfl rfl rfl rfl rfl (fun _=>rfl) rfl (by decide) (by decide) rfl fun u80=>?_);refine gX tv82 [14] 0 ?_;refine vD ?_;refine nX (u80) ?_ ⟨rfl,rfl,trivial⟩ ⟨rfl,rfl,trivial⟩;exact⟨w76,w77,w78⟩
      generalize hr81:R_ s m r8.1=r9;generalize hr82:Bd_ m tick (Gc_ tick m.m)=r10;rintro u75 ⟨w83,w84,w85⟩;have e86:=e73.trans (Aq_ hr81.symm);have e87:=e86.trans (Aq_ hr82.symm);refine gx tv82 1 ?_;refine givec 5 rfl ?_;refine gx tv82 4 ?_;have e88:=Ez_ q_o e87;subst e88;exact rt3 rfl rfl (Ba_ (B_ (ple rfl) (B_ Ak_ (B_ (ple rfl) Ag_))))
    refine gx tv82 6 ?_;refine cD e90 (fun p92 e93=>?_) (fun p110 e111=>?_)
    · refine gx tv82 4 ?_;refine cV e93 R0_ (Fo_ _ (hc:=by first|omega|exact sok_cr (by assumption) (by omega))) rfl fun r11 hr94 e96 w95=>?_;refine gx tv82 3 ?_;refine cD e96 (fun p98 e99=>?_) (fun p104 e105=>?_)
      · refine gx tv82 1 ?_;refine aN [2,5,6,7,8,9,10] 6 mixd ?_;refine gX tv82 [0,1] 4 ?_;refine vE 2 rfl (eC (Cl_ m _) rfl ?_);generalize hr101:Ab_ m 12=r12;intro w100;have e102:=e99.trans (Aq_ hr101.symm);refine vE 3 rfl (sA tv82 ?_);refine gX tv82 [4,5] 0 ?_;refine vD ?_;refine gx tv82 6 ?_;have e103:=Ez_ q_o e102;subst e103;exact rt3 rfl rfl (Ba_ (B_ (ple rfl) (B_ (ple rfl) (B_ Ak_ Ag_))))
      refine gx tv82 3 ?_;refine Dv_ (ι:=Value) [6] [0,1,3,4] (fun u106=>[(7, .val (.slice none 0 0)),(8, .osl 5)]) (fun u106=>[(2, .box (B2 2) 75 (A_.pc s)),(5, .arr u106 29 53 DeedR.pc [(⟨7,tick,(⟨[],0,[]⟩:ShopR),(⟨[],0,0,[]⟩:Aa_),(⟨[],[],false,[],[],false⟩:BindR),m.name,0,0,0,0,0,(⟨0,[],[],[],[],0,0⟩:Mail),[]⟩:DeedR)])]) (fun u106=>True) ?_ ?_
      · refine aN [2,5,6,7,8,9,10,11,12] 9 mixd ?_;refine gX tv82 [0,1,2,3,4] 4 ?_;refine veL 5 [6] (by kernel_rfl) ⟨⟨_,rfl,?_⟩,⟨_,rfl,?_⟩,trivial⟩
        · refine ej rfl (bsl 5 DeedR.pc [(⟨7,tick,(⟨[],0,[]⟩:ShopR),(⟨[],0,0,[]⟩:Aa_),(⟨[],[],false,[],[],false⟩:BindR),m.name,0,0,0,0,0,(⟨0,[],[],[],[],0,0⟩:Mail),[]⟩:DeedR)] tv82 rfl rfl rfl rfl rfl (fun _=>rfl) rfl (by decide) (by decide) rfl fun u107=>?_);refine vE 6 rfl (sA tv82 ?_);refine gX tv82 [7,8] 0 ?_;refine vD ?_;refine nX (u107) ?_ ⟨rfl,rfl,trivial⟩ ⟨rfl,rfl,trivial⟩;exact trivial
        refine ej rfl (sA tv82 ?_);refine gX tv82 [7] 2 ?_;refine vE 5 rfl (bsl 5 DeedR.pc [(⟨7,tick,(⟨[],0,[]⟩:ShopR),(⟨[],0,0,[]⟩:Aa_),(⟨[],[],false,[],[],false⟩:BindR),m.name,0,0,0,0,0,(⟨0,[],[],[],[],0,0⟩:Mail),[]⟩:DeedR)] tv82 rfl rfl rfl rfl rfl (fun _=>rfl) rfl (by decide) (by decide) rfl fun u108=>?_);refine gX tv82 [8] 0 ?_;refine vD ?_;refine nX (u108) ?_ ⟨rfl,rfl,trivial⟩ ⟨rfl,rfl,trivial⟩;exact trivial
      rintro u106 _;refine gx tv82 1 ?_;refine givec 5 rfl ?_;refine gx tv82 4 ?_;have e109:=Ez_ q_o e105;subst e109;exact rt3 rfl rfl (Ba_ (B_ (ple rfl) (B_ Ak_ (B_ (ple rfl) Ag_))))
    refine gx tv82 1 ?_;obtain⟨o1,e_o1,q_o1⟩:=Cc_ e111;refine Dv_ (ι:=Bool) [2,3,4,6,7,8,9] [0,1,2,3,4] (fun v=>[(109, .bool v)]) (fun v=>[]) (fun v=>o1=v) ?_ ?_
    · refine gx tv82 6 ?_;refine cD e_o1 (fun p113 e114=>?_) (fun p115 e116=>?_)
      · refine gx tv82 1 ?_;refine nX (decide (m.kind=16)) ?_ ⟨rfl,trivial⟩ trivial;exact e114
      refine gx tv82 4 ?_;refine nX (decide (m.kind=19)) ?_ ⟨rfl,trivial⟩ trivial;exact e116
    rintro v hp117;have e118:=D5_ q_o1 hp117;refine gx tv82 1 ?_;refine cE e118 (fun h119 e120=>?_) (fun h119 e172=>?_)
    · refine gx tv82 5 ?_;refine ef (ecallo 5 (Io_ _ _ _) rfl rfl ?_);generalize hr123:A6_ ((A5.get s.slots ((m.channel).toNat)).chan) m tick=r13;intro u122 w121;have e124:=e120.trans (Aq_ hr123.symm);have hr123:=hr123.symm;have hA124:=U3_ ((A5.get s.slots ((m.channel).toNat)).chan) m tick
      (try rw[<- hr123] at hA124)
      refine gy tv82 19 ?_;refine callg rfl (fun hc=>(Hp_ _)) rfl ⟨(fun hc=>hc),trivial⟩ rfl rfl fun _=>?_;refine gy tv82 3 ?_;refine cE e124 (fun h126 e133=>?_) (fun h126 e149=>?_)
      · have h127:=bl h126;have h128:=bl h127;have p129:=dt h128;have h130:=br h127;have p131:=dt h130;have h132:=br h126;refine gx tv82 1 ?_;refine sw_osl (t:=17) 5 rfl rfl ?_;refine aN [5,6,7,8,9,10,11] 9 mixd ?_;refine gX tv82 [0,1] 7 ?_;refine vE 2 rfl (ecallw (Ng_ _ _) rfl rfl rfl rfl rfl rfl ?_);generalize hr136:Cm_ r13.1 0=r14;intro u134 w135;have e137:=e133.trans (Aq_ hr136.symm);have hr136:=hr136.symm;have hA137:=Ud_ r13.1 0
        (try rw[<- hr136] at hA137)
        refine sv_osl (t:=133) 5 rfl rfl ?_;refine vE 3 rfl (Lf_ 5 rfl (Me_ (eC (El_ ((A5.get s.slots ((m.channel).toNat)).chan) _ (hx:=by first|omega|exact Vj_ (by assumption) (by omega) (by omega))) rfl ?_)));generalize hr140:Af_ ((A5.get s.slots ((m.channel).toNat)).chan) r14=r15;intro w139;have e141:=e137.trans (Aq_ hr140.symm);refine gX tv82 [4,5,6] 2 ?_;refine vtp 7 rfl (by kernel_rfl) (by kernel_rfl) (sA tv82 ?_);refine gX tv82 [8] 0 ?_;refine vD ?_;refine gx tv82 2 ?_;refine aN [2,5,6,7,8,9,10] 10 mixd ?_;refine gX tv82 [0,1,2,4,5] 5 ?_;refine vE 3 rfl (eC (D2_ s m r15.1) rfl ?_);generalize hr143:R_ s m r15.1=r16;intro w142;have e144:=e141.trans (Aq_ hr143.symm);refine vE 6 rfl (eC (Cl_ m _) rfl ?_);generalize hr146:Ab_ m r15.2=r17;intro w145;have e147:=e144.trans (Aq_ hr146.symm);refine vE 7 rfl (sA tv82 ?_);refine gX tv82 [8,9] 0 ?_;refine vD ?_;refine gx tv82 6 ?_;have e148:=Ez_ q_o e147;subst e148;exact rt3 rfl rfl (Ba_ (B_ (ple rfl) (B_ (ple rfl) (B_ Ak_ Ag_))))
      refine gx tv82 8 ?_;refine bcase (!decide (r13.2=0)) (fun h150=>?_) (fun h150=>?_)
      · have h151:=Br_ h150;have p152:=df h151;have e153:=e149.trans (condT h150);refine so_rt (t:=145) (p':= .bool true) (ple (congrArg PV.bool h150)) rfl ?_;refine so_rt (t:=146) (p':= .bool true) (ple (congrArg PV.bool h150)) rfl ?_;refine ungs rfl rfl rfl ?_;refine ungs rfl rfl rfl ?_;refine ungs rfl rfl rfl ?_;refine gx tv82 5 ?_;refine aN [2,6,7,8,9,10,11] 7 mixd ?_;refine gX tv82 [0,1,2] 4 ?_;refine vE 3 rfl (eC (Cl_ m _) rfl ?_);generalize hr155:Ab_ m r13.2=r18;intro w154;have e156:=e153.trans (Aq_ hr155.symm);refine vE 4 rfl (sA tv82 ?_);refine gX tv82 [5,6] 0 ?_;refine vD ?_;refine gx tv82 6 ?_;have e157:=Ez_ q_o e156;subst e157;exact rt3 rfl rfl (Ba_ (B_ (ple rfl) (B_ (ple rfl) (B_ Ak_ Ag_))))
      have h158:=Bf_ h150;have p159:=dt h158;have e160:=e149.trans (condF h150);refine so_rt (t:=145) (p':= .bool false) (ple (congrArg PV.bool h150)) rfl ?_;refine so_rt (t:=146) (p':= .bool false) (ple (congrArg PV.bool h150)) rfl ?_;refine ungd rfl rfl ?_;refine gx tv82 1 ?_;refine ungd rfl rfl ?_;refine so_osl (t:=147) 5 rfl rfl ?_;refine gx tv82 1 ?_;refine ungd rfl rfl ?_;refine gx tv82 4 ?_;refine cD e160 (fun p162 e163=>?_) (fun p168 e169=>?_)
      · refine gx tv82 1 ?_;refine aN [2,6,7,8,9,10,11] 7 mixd ?_;refine gX tv82 [0,1,2] 4 ?_;refine vE 3 rfl (eC (Cl_ m _) rfl ?_);generalize hr165:Ab_ m r13.2=r19;intro w164;have e166:=e163.trans (Aq_ hr165.symm);refine vE 4 rfl (sA tv82 ?_);refine gX tv82 [5,6] 0 ?_;refine vD ?_;refine gx tv82 6 ?_;have e167:=Ez_ q_o e166;subst e167;exact rt3 rfl rfl (Ba_ (B_ (ple rfl) (B_ (ple rfl) (B_ Ak_ Ag_))))
      refine gm tv82 11 [] fun _=>?_;refine sw_osl (t:=8) 5 rfl rfl ?_;refine sw_osl (t:=117) 5 rfl rfl ?_;refine sw_osl (t:=17) 5 rfl rfl ?_;refine sw_osl (t:=156) 5 rfl rfl ?_;refine givec 5 rfl ?_;refine gx tv82 4 ?_;have e171:=Ez_ q_o e169;subst e171;exact rt3 rfl rfl (Ba_ (B_ (ple rfl) (B_ Ak_ (B_ (ple rfl) Ag_))))
    refine gx tv82 2 ?_;refine nX () ?_ trivial trivial;exact e172
  rintro _ hp173;have e174:=Tn_ q_o hp173;refine gx tv82 5 ?_;refine cV e174 R5_ (Kl_ _ _) rfl fun r20 hr175 e177 w176=>?_;have hA177:=Kv_ ((A5.get s.slots ((m.channel).toNat)).chan) tick
  (try rw[<- hr175] at hA177)
  (try have hA178:=cok_ln (c:=((A5.get s.slots ((m.channel).toNat)).chan)) (n:=10000000) (by first|assumption|exact Qc_ (by assumption) (by omega) (by omega));(try rw[<- hr175] at hA178))
  refine gx tv82 11 ?_;refine cD e177 (fun p181 e182=>?_) (fun p189 e190=>?_)
  · refine gx tv82 4 ?_;refine cV e182 R16_ (Fn.le (E5_ _ _ [] _) (B_ (ple rfl) (B_ (ple rfl) (B_ Ak_ (B_ (ple rfl) Ag_)))) (ple rfl) rfl) rfl fun r21 hr183 e185 w184=>?_
    (try have hA185:=Nx_ (m:=m) (l:=[]) (e:=0) (show SOk s _ by assumption) (Nat.le_succ _) (fun _=>Nat.le_refl _) (by first|assumption|exact Ki_ (by simp) (by omega)|simp) (by omega);(try rw[<- hr183] at hA185);obtain⟨hA185_0,hA185_1,hA185_2⟩:=hA185)
    refine gm tv82 19 [5] fun B188=>?_;subst e185;exact rt3 rfl rfl (Ba_ (B_ (ple rfl) (B_ (ple rfl) (B_ Ak_ Ag_))))
  refine gm tv82 12 [] fun _=>?_;subst e190;exact rt3 rfl rfl (Ba_ (B_ (ple rfl) (B_ Ak_ (B_ (ple rfl) Ag_))))
theorem Fe_ (s:A_) (m:Method) (tick:Int) (hs:SOk s 10000000:=by first|assumption|exact Ff_ (by assumption) (by omega)) (hh:m.head.length<=1000000:=by first|omega|(simp;done)):Fn Tryz.prog gb 20 [.agg (A_.pc s), .agg (Method.pc m), .int .u64 tick] (.tup [.agg (A_.pc ((G_ s m tick).1)), .sl Reply.pc ((G_ s m tick).2.1), .sl DeedR.pc ((G_ s m tick).2.2.1), .int .i64 ((G_ s m tick).2.2.2)]):=by
  refine fC Tryz.func20 tv82 Tryz.ntmps20 fun w N H hG=>?_;have s_place_l:s.place.length<=9223372036854775807:=w.1.1;have s_feed_rest_l:s.feed.rest.length<=9223372036854775807:=w.1.2.1;have s_feed_err_r:-9223372036854775808<=s.feed.err/\s.feed.err<=9223372036854775807:=w.1.2.2.1;have m_channel_r:0<=m.channel/\m.channel<=255:=w.2.1.1;have m_kind_r:0<=m.kind/\m.kind<=255:=w.2.1.2.1;have m_name_l:m.name.length<=9223372036854775807:=w.2.1.2.2.1;have m_other_l:m.other.length<=9223372036854775807:=w.2.1.2.2.2.1;have m_key_l:m.key.length<=9223372036854775807:=w.2.1.2.2.2.2.1;have m_head_l:m.head.length<=140737488355328:=w.2.1.2.2.2.2.2.1.1;have m_body_l:m.body.length<=9223372036854775807:=w.2.1.2.2.2.2.2.2.1;have m_n_r:0<=m.n/\m.n<=18446744073709551615:=w.2.1.2.2.2.2.2.2.2.1;have m_m_r:0<=m.m/\m.m<=18446744073709551615:=w.2.1.2.2.2.2.2.2.2.2.1;have tick_r:0<=tick/\tick<=18446744073709551615:=w.2.2.1;have e0:=G_.eq_1 s m tick;generalize G_ s m tick=z at e0 ⊢;refine gm tv82 15 [0,1,2] fun B2=>?_;refine cV e0 R0_ (J9_ _ _) rfl fun r hr5 e7 w6=>?_;have hA7:=smay_ch s m
  (try rw[<- hr5] at hA7)
  refine gx tv82 9 ?_;refine cN e7 (fun p11 e12=>?_) (fun p15 e16=>?_)
  · refine gm tv82 12 [] fun _=>?_;subst e12;exact rt4 rfl rfl (Ba_ (B_ (ple rfl) (B_ Ak_ (B_ Ak_ (B_ (ple rfl) Ag_)))))
  refine gx tv82 16 ?_;refine cD e16 (fun p18 e19=>?_) (fun p24 e25=>?_)
  · refine gm tv82 7 [] fun _=>?_;refine Dv_ (ι:=Value) [6] [0,1] (fun u21=>[(7, .osl 3),(8, .val (.slice none 0 0)),(9, .int .i64 0)]) (fun u21=>[(2, .box (B2 2) 75 (A_.pc (⟨s.place,s.feed,true,s.over,s.slots⟩:A_))),(3, .arr u21 13 137 Reply.pc [(⟨0,0,0,0,false,s.place,(⟨0,[],[],[],[],0,0⟩:Mail)⟩:Reply)])]) (fun u21=>True) ?_ ?_
    · refine aN [2,3,4,5,6,7,8,9,10] 9 mixd ?_;refine gX tv82 [0,1,2,3] 5 ?_;refine veL 4 [5] (by kernel_rfl) ⟨⟨_,rfl,?_⟩,⟨_,rfl,?_⟩,trivial⟩
      · refine ej rfl (bsl 3 Reply.pc [(⟨0,0,0,0,false,s.place,(⟨0,[],[],[],[],0,0⟩:Mail)⟩:Reply)] tv82 rfl rfl rfl rfl rfl (fun _=>rfl) rfl (by decide) (by decide) rfl fun u22=>?_);refine vE 5 rfl (sA tv82 ?_);refine gX tv82 [6,7,8] 0 ?_;refine vD ?_;refine nX (u22) ?_ ⟨rfl,rfl,rfl,trivial⟩ ⟨rfl,rfl,trivial⟩;exact trivial
      refine ej rfl (sA tv82 ?_);refine vE 4 rfl (bsl 3 Reply.pc [(⟨0,0,0,0,false,s.place,(⟨0,[],[],[],[],0,0⟩:Mail)⟩:Reply)] tv82 rfl rfl rfl rfl rfl (fun _=>rfl) rfl (by decide) (by decide) rfl fun u23=>?_);refine gX tv82 [6,7,8] 0 ?_;refine vD ?_;refine nX (u23) ?_ ⟨rfl,rfl,rfl,trivial⟩ ⟨rfl,rfl,trivial⟩;exact trivial
    rintro u21 _;refine gx tv82 1 ?_;refine givec 3 rfl ?_;refine gx tv82 3 ?_;subst e19;exact rt4 rfl rfl (Ba_ (B_ (ple rfl) (B_ (ple rfl) (B_ Ak_ (B_ (ple rfl) Ag_)))))
  refine gx tv82 6 ?_;refine cD e25 (fun p27 e28=>?_) (fun p37 e38=>?_)
  · refine gx tv82 1 ?_;refine aN [3,4,5,6,7,8] 7 mixd ?_;refine gX tv82 [0,1,4] 4 ?_;refine vE 2 rfl (eC Oj_ rfl ?_);generalize hr30:Cz_=r1;intro w29;have e31:=e28.trans (Aq_ hr30.symm);have hr30:=hr30.symm;have hA31:=L2_ 0
    (try rw[<- hr30] at hA31)
    refine gX tv82 [3] 2 ?_;refine vq 5 (qaia (m.channel).toNat rfl rfl Tryz.underlying73 sz72 (by omega) (by omega)) rfl (by kernel_rfl) rfl fun w33=>?_;refine vtp 6 rfl (by kernel_rfl) (by kernel_rfl) (D1_ (sz:=8) (len:=5) (fun q=>A_.pc (⟨s.place,s.feed,s.begun,s.over,(A5.set s.slots (⟨r1,true⟩:SlotR) q)⟩:A_)) ((m.channel).toNat) 5 8 0 tv82 rfl rfl rfl rfl rfl rfl rfl rfl rfl (by omega) (bw5 rfl rfl rfl rfl rfl) rfl (bw5 rfl rfl rfl rfl rfl) rfl ?_);refine vD ?_;refine gx tv82 2 ?_;refine aN [2,3,4,5,6,7,8] 7 mixd ?_;refine gX tv82 [0,1] 5 ?_;refine vE 2 rfl (eC (Cl_ m _) rfl ?_);generalize hr35:Ab_ m 0=r2;intro w34;have e36:=e31.trans (Aq_ hr35.symm);refine vE 3 rfl (sA tv82 ?_);refine gX tv82 [4,5,6] 0 ?_;refine vD ?_;refine gx tv82 4 ?_;subst e36;exact rt4 rfl rfl (Ba_ (B_ (ple rfl) (B_ (ple rfl) (B_ Ak_ (B_ (ple rfl) Ag_)))))
  refine gx tv82 8 ?_;refine cV e38 R17_ (Jp_ _ _ _) rfl fun r3 hr39 e41 w40=>?_;refine gm tv82 21 [] fun _=>?_;subst e41;exact qr4
theorem Ep_ (s:A_) (hs:SOk s 10000000:=by first|assumption|exact Ff_ (by assumption) (by omega)):Fn Tryz.prog gb 24 [.agg (A_.pc s)] (.sl TakerS.pc (K_ s)):=by
  refine fC Tryz.func24 tv82 Tryz.ntmps24 fun w N H hG=>?_;have e0:=K_.eq_1 s;refine gm tv82 20 [0] fun B2=>?_;refine sw_own (t:=3) (k:=3) (e:=153) 1 TakerS.pc rfl rfl ?_;refine loop (ι:=Nat×(List TakerS)×Nat×Value) [2,9] [0] (fun ⟨f,out,v,u_out⟩=>[(3, .osl 1),(10, .int .i64 (v:Int))]) (fun ⟨f,out,v,u_out⟩=>[(1, .arr u_out 3 153 TakerS.pc out)]) (fun ⟨f,out,v,u_out⟩=>5-v<f/\K_ s=Ax_ s f out v/\out.length<=v*4/\v<=5) (fun ⟨f,out,v,u_out⟩=>f) ⟨(5-0+1),[],0,(.slice none 0 0)⟩ ⟨rfl,rfl,trivial⟩ ⟨rfl,trivial⟩ ?_ ?_
  · exact⟨Nat.lt_succ_self _,e0,⟨by simp,by omega⟩⟩
  rintro⟨f,out,v,u_out⟩ ⟨hp3_1,hp3_2,hp3_3⟩;obtain⟨f1,rfl⟩:∃ q,f=q+1:=⟨f-1,by omega⟩;have e_f1:=hp3_2.trans (Ax_.eq_2 _ _ _ _);refine gx tv82 6 ?_;refine cD e_f1 (fun p5 e6=>?_) (fun p34 e35=>?_)
  · refine gx tv82 3 ?_;obtain⟨o,e_o,q_o⟩:=Cc_ e6;refine Dv_ (ι:=(List TakerS)×Value) [2,9,10] [0] (fun ⟨out1,u_out1⟩=>[(3, .osl 1)]) (fun ⟨out1,u_out1⟩=>[(1, .arr u_out1 3 153 TakerS.pc out1)]) (fun ⟨out1,u_out1⟩=>o=out1/\out1.length<=v*4+4) ?_ ?_
    · refine gx tv82 4 ?_;refine q1 (qaivA (fun q=>[.int .i64 ((A5.get s.slots q).chan.credit), .sl L_.pc ((A5.get s.slots q).chan.takers), .sl LentR.pc ((A5.get s.slots q).chan.lent), .bool ((A5.get s.slots q).chan.sure), .bool ((A5.get s.slots q).chan.drafts), .int .u64 ((A5.get s.slots q).chan.puts), .sl DeedR.pc ((A5.get s.slots q).chan.held.l), .bool ((A5.get s.slots q).isopen)]) v tv82 rfl rfl Tryz.underlying73 rfl rfl rfl rfl (by omega) (bw5 rfl rfl rfl rfl rfl)) rfl fun w7=>?_;refine gmy tv82 12 [2] fun B9=>?_;refine callg rfl (fun hc=>(Fo_ _ (hc:=by first|omega|exact sok_cr (by assumption) (by omega)))) rfl ⟨(fun hc=>hc),trivial⟩ rfl rfl fun _=>?_;refine gy tv82 4 ?_;refine cE e_o (fun h10 e14=>?_) (fun h10 e31=>?_)
      · have h11:=bl h10;have h12:=br h10;have p13:=dt h12;refine gx tv82 4 ?_;refine cV e14 R18_ (Lh_ _ (ht:=by first|omega|exact sok_tk (by assumption) (by omega) (by omega))) rfl fun r hr15 e17 w16=>?_;have hA17:=tks_len ((A5.get s.slots v).chan)
        (try rw[<- hr15] at hA17)
        refine gx tv82 5 ?_;refine loop (ι:=Nat×(List TakerS)×Value) [2,4,9,10,24,25] [0,2] (fun ⟨k,out2,u_out2⟩=>[(26, .int .i64 (k:Int)),(3, .osl 1)]) (fun ⟨k,out2,u_out2⟩=>[(1, .arr u_out2 3 153 TakerS.pc out2)]) (fun ⟨k,out2,u_out2⟩=>k<=r.length/\o=Ao_ v (r.drop k) out2/\out2.length<=k+out.length/\r.length<=4) (fun ⟨k,out2,u_out2⟩=>r.length-k) ⟨0,out,(u_out)⟩ ⟨rfl,rfl,trivial⟩ ⟨rfl,trivial⟩ ?_ ?_
        · exact⟨Nat.zero_le _,e17,⟨by omega,by have hq:=sok_tk (k:=v) (m:=4) hs (by omega) (by omega);omega⟩⟩
        rintro⟨k,out2,u_out2⟩ ⟨hp19_1,hp19_2,hp19_3⟩;refine gx tv82 6 ?_;refine cn rfl (fun p21=>?_) fun p29=>?_
        · have e22:=C1_ (f:=fun zz=>Ao_ v zz out2) hp19_2 (Fr_ (by omega)) (Ao_.eq_2 _ _ _ _);have hc23:=getG (xs:=r) (k:=k) (by omega);refine gx tv82 6 ?_;refine q1 (qidx tv82 k rfl rfl rfl hc23 rfl rfl rfl rfl) rfl fun w24=>?_;refine gm tv82 14 [3] fun B26=>?_;refine ef (bsl 4 TakerS.pc [(⟨(IntKind.wrap .u8 (v:Int)),(gt r k).tag,(gt r k).queue⟩:TakerS)] tv82 rfl rfl rfl rfl rfl (fun _=>rfl) rfl (by decide) (by decide) rfl fun u27=>?_);refine ef (app tv82 [(⟨(IntKind.wrap .u8 (v:Int)),(gt r k).tag,(gt r k).queue⟩:TakerS)] rfl rfl rfl rfl rfl rfl rfl rfl rfl (src_o rfl rfl) (by first|omega|(simp;omega)) rfl fun u28=>?_);refine gy tv82 8 ?_;refine next ⟨(k+1),(out2++[(⟨(IntKind.wrap .u8 (v:Int)),(gt r k).tag,(gt r k).queue⟩:TakerS)]),(u28)⟩ rfl rfl ⟨rfl,rfl,trivial⟩ ⟨rfl,trivial⟩ ?_ ?_
          · (try simp only[]);omega
          exact⟨by (try simp only[]);omega,e22,⟨by (try simp only[List.length_append,List.length_cons,List.length_nil]);omega,by omega⟩⟩
        have e30:=C1_ (f:=fun zz=>Ao_ v zz out2) hp19_2 (Gb_ (by omega)) (Ao_.eq_1 _ _);refine gx tv82 5 ?_;refine nX ⟨out2,(u_out2)⟩ ?_ ⟨rfl,trivial⟩ ⟨rfl,trivial⟩;exact⟨e30,(by (try simp only[]);omega)⟩
      refine gx tv82 2 ?_;refine nX ⟨out,(u_out)⟩ ?_ ⟨rfl,trivial⟩ ⟨rfl,trivial⟩;exact⟨e31,(by (try simp only[]);omega)⟩
    rintro⟨out1,u_out1⟩ ⟨hp32,hp32_3⟩;have e33:=D5_ q_o hp32;refine gy tv82 5 ?_;refine next ⟨f1,out1,(v+1),(u_out1)⟩ rfl rfl ⟨rfl,rfl,trivial⟩ ⟨rfl,trivial⟩ ?_ ?_
    · (try simp only[]);omega
    exact⟨by (try simp only[]);omega,e33,⟨by omega,by omega⟩⟩
  refine gx tv82 11 ?_;refine givec 1 rfl ?_;refine gx tv82 1 ?_;exact rt1 rfl rfl (Au_ (fun r:(List TakerS)=> .sl TakerS.pc r) e35 (ple rfl))
theorem Gv_ (s:A_) (tick:Int) (hs:SOk s 10000000:=by first|assumption|exact Ff_ (by assumption) (by omega)):Fn Tryz.prog gb 22 [.agg (A_.pc s), .int .u64 tick] (.tup [.agg (A_.pc ((Ai_ s tick).1)), .sl DeedR.pc ((Ai_ s tick).2)]):=by
  refine fC Tryz.func22 tv82 Tryz.ntmps22 fun w N H hG=>?_;have e0:=Ai_.eq_1 s tick;refine gm tv82 19 [0,1] fun B2=>?_;refine sw_own (t:=6) (k:=29) (e:=53) 2 DeedR.pc rfl rfl ?_;refine loop (ι:=Nat×(List DeedR)×Nat×A_×Value) [1,2,4,5] [1] (fun ⟨f,out,v,x,u_out⟩=>[(6, .osl 2),(8, .int .i64 (v:Int))]) (fun ⟨f,out,v,x,u_out⟩=>[(2, .arr u_out 29 53 DeedR.pc out),(0, .box (B2 0) 75 (A_.pc x))]) (fun ⟨f,out,v,x,u_out⟩=>5-v<f/\Ai_ s tick=A7_ tick f out v x/\out.length<=10000000*v/\v<=5/\SOk x 10000000) (fun ⟨f,out,v,x,u_out⟩=>f) ⟨(5-0+1),[],0,s,(.slice none 0 0)⟩ ⟨rfl,rfl,trivial⟩ ⟨rfl,rfl,trivial⟩ ?_ ?_
  · exact⟨Nat.lt_succ_self _,e0,⟨by simp,by omega,by assumption⟩⟩
  rintro⟨f,out,v,x,u_out⟩ ⟨hp4_1,hp4_2,hp4_3⟩;obtain⟨hk1,hk2,hk3⟩:=hp4_3;obtain⟨f1,rfl⟩:∃ q,f=q+1:=⟨f-1,by omega⟩;have e_f1:=hp4_2.trans (A7_.eq_2 _ _ _ _ _);refine gx tv82 6 ?_;refine cD e_f1 (fun p6 e7=>?_) (fun p23 e24=>?_)
  · refine gx tv82 15 ?_;refine q1 (qaia v rfl rfl Tryz.underlying73 sz72 rfl (by omega)) rfl fun w8=>?_;refine gx tv82 1 ?_;refine ef (P0_ (len:=5) (fun q=> .bool ((A5.get x.slots q).isopen)) v 5 8 7 tv82 rfl rfl rfl rfl rfl rfl (by omega) (bw5 rfl rfl rfl rfl rfl) rfl fun w9=>?_);refine gx tv82 2 ?_;refine cE e7 (fun h10 e11=>?_) (fun h10 e21=>?_)
    · refine gx tv82 4 ?_;refine q1 (qaia v rfl rfl Tryz.underlying73 sz72 rfl (by omega)) rfl fun w12=>?_;refine gx tv82 1 ?_;refine ef (Iz_ (sz:=7) (len:=5) (fun q=>[.int .i64 ((A5.get x.slots q).chan.credit), .sl L_.pc ((A5.get x.slots q).chan.takers), .sl LentR.pc ((A5.get x.slots q).chan.lent), .bool ((A5.get x.slots q).chan.sure), .bool ((A5.get x.slots q).chan.drafts), .int .u64 ((A5.get x.slots q).chan.puts), .sl DeedR.pc ((A5.get x.slots q).chan.held.l)]) v 5 8 0 tv82 rfl rfl rfl rfl rfl rfl rfl (by omega) (bw5 rfl rfl rfl rfl rfl) (bw5 rfl rfl rfl rfl rfl) rfl fun w13=>?_);refine gx tv82 1 ?_;refine cV e11 R5_ (Kl_ _ _) rfl fun r hr14 e16 w15=>?_;have hA16:=Kv_ ((A5.get x.slots v).chan) tick
      (try rw[<- hr14] at hA16)
      (try have hA17:=cok_ln (c:=((A5.get x.slots v).chan)) (n:=10000000) (by first|assumption|exact Qc_ (by assumption) (by omega) (by omega));(try rw[<- hr14] at hA17))
      refine ef (app tv82 r rfl rfl rfl rfl rfl rfl rfl rfl rfl (src_l rfl (fun _=>rfl)) (by first|omega|(simp;omega)) rfl fun u19=>?_);refine gx tv82 7 ?_;refine q1 (qaia v rfl rfl Tryz.underlying73 sz72 rfl (by omega)) rfl fun w20=>?_;refine ef (D1_ (sz:=8) (len:=5) (fun q=>A_.pc (⟨x.place,x.feed,x.begun,x.over,(A5.set x.slots (⟨(⟨0,[],[],false,false,0,(⟨[]⟩:Ap_)⟩:ChanR),false⟩:SlotR) q)⟩:A_)) v 5 8 0 tv82 rfl rfl rfl rfl rfl rfl rfl rfl rfl (by omega) (bw5 rfl rfl rfl rfl rfl) rfl (bw5 rfl rfl rfl rfl rfl) rfl ?_);refine gy tv82 7 ?_;refine next ⟨f1,(out++r),(v+1),(⟨x.place,x.feed,x.begun,x.over,(A5.set x.slots (⟨(⟨0,[],[],false,false,0,(⟨[]⟩:Ap_)⟩:ChanR),false⟩:SlotR) v)⟩:A_),(u19)⟩ rfl rfl ⟨rfl,rfl,trivial⟩ ⟨rfl,rfl,trivial⟩ ?_ ?_
      · (try simp only[]);omega
      exact⟨by (try simp only[]);omega,e16,⟨by first|omega|(simp only[List.length_append];omega),by omega,Kf_ (by assumption) (by omega) (Fa_ _)⟩⟩
    refine gx tv82 6 ?_;refine q1 (qaia v rfl rfl Tryz.underlying73 sz72 rfl (by omega)) rfl fun w22=>?_;refine ef (D1_ (sz:=8) (len:=5) (fun q=>A_.pc (⟨x.place,x.feed,x.begun,x.over,(A5.set x.slots (⟨(⟨0,[],[],false,false,0,(⟨[]⟩:Ap_)⟩:ChanR),false⟩:SlotR) q)⟩:A_)) v 5 8 0 tv82 rfl rfl rfl rfl rfl rfl rfl rfl rfl (by omega) (bw5 rfl rfl rfl rfl rfl) rfl (bw5 rfl rfl rfl rfl rfl) rfl ?_);refine gy tv82 7 ?_;refine next ⟨f1,out,(v+1),(⟨x.place,x.feed,x.begun,x.over,(A5.set x.slots (⟨(⟨0,[],[],false,false,0,(⟨[]⟩:Ap_)⟩:ChanR),false⟩:SlotR) v)⟩:A_),(u_out)⟩ rfl rfl ⟨rfl,rfl,trivial⟩ ⟨rfl,rfl,trivial⟩ ?_ ?_
    · (try simp only[]);omega
    exact⟨by (try simp only[]);omega,e21,⟨by first|omega|(simp only[List.length_append];omega),by omega,Kf_ (by assumption) (by omega) (Fa_ _)⟩⟩
  refine gm tv82 19 [] fun _=>?_;refine givec 2 rfl ?_;refine gx tv82 1 ?_;exact rt2 rfl rfl (Au_ (fun r:A_×(List DeedR)=> .tup [.agg (A_.pc r.1), .sl DeedR.pc r.2]) e24 (ple rfl))
theorem Jo_ (s:A_) (chunk:Bs) (hf:s.feed.rest.length+chunk.length<=4000000000:=by omega):Fn Tryz.prog gb 25 [.agg (A_.pc s), .str chunk] (.tup [.agg (A_.pc ((J_ s chunk).1)), .sl Method.pc ((J_ s chunk).2.1), .int .i64 ((J_ s chunk).2.2)]):=by
  refine fC Tryz.func25 tv82 Tryz.ntmps25 fun w N H hG=>?_;have e0:=J_.eq_1 s chunk;generalize J_ s chunk=z at e0 ⊢;refine gm tv82 15 [0,1] fun B2=>?_;refine cE e0 (fun h4 e5=>?_) (fun h4 e7=>?_)
  · refine gm tv82 10 [] fun _=>?_;subst e5;exact rt3 rfl rfl (Ba_ (B_ (ple rfl) (B_ Ak_ (B_ (ple rfl) Ag_))))
  refine gx tv82 7 ?_;refine ef (ecallo 2 (Q0_ _ _) rfl rfl fun u9 w8=>?_);have hfd9:=Tu_ s.feed chunk
  (try simp only[List.length_nil,List.length_take,List.length_drop] at hfd9)
  refine gm tv82 24 [3] fun B12=>?_;refine so_osl (t:=26) 2 rfl rfl ?_;refine gx tv82 5 ?_;refine sw_own (t:=9) (k:=10) (e:=64) 4 Method.pc rfl rfl ?_;refine sw_osl (t:=23) 2 rfl rfl ?_;refine sw_osl (t:=8) 2 rfl rfl ?_;refine givec 2 rfl ?_;refine loop (ι:=Nat×(List Method)×Nat×Value) [2,4,7,26,27] [0,1,3] (fun ⟨f,out,v,u_out⟩=>[(9, .osl 4),(28, .int .i64 (v:Int))]) (fun ⟨f,out,v,u_out⟩=>[(4, .arr u_out 10 64 Method.pc out)]) (fun ⟨f,out,v,u_out⟩=>(((Ac_ s.feed chunk).2).length)-v<f/\z=Cn_ s chunk f out v/\out.length<=v) (fun ⟨f,out,v,u_out⟩=>f) ⟨((((Ac_ s.feed chunk).2).length)-0+1),[],0,(.slice none 0 0)⟩ ⟨rfl,rfl,trivial⟩ ⟨rfl,trivial⟩ ?_ ?_
  · exact⟨Nat.lt_succ_self _,e7,(by first|omega|(simp;done)|(simp;omega))⟩
  rintro⟨f,out,v,u_out⟩ ⟨hp13_1,hp13_2,hp13_3⟩;obtain⟨f1,rfl⟩:∃ q,f=q+1:=⟨f-1,by omega⟩;have e_f1:=hp13_2.trans (Cn_.eq_2 _ _ _ _ _);refine gx tv82 6 ?_;refine cD e_f1 (fun p15 e16=>?_) (fun p37 e38=>?_)
  · have hc17:=getG (xs:=(Ac_ s.feed chunk).2) (k:=v) (by omega);refine gx tv82 6 ?_;refine q1 (qidx tv82 v rfl rfl rfl hc17 rfl rfl rfl rfl) rfl fun w18=>?_;refine gm tv82 8 [2] fun B20=>?_;refine cV e16 R19_ (Vf_ _) rfl fun r hr21 e23 w22=>?_;have hA23:=of_len (gt ((Ac_ s.feed chunk).2) v)
    (try rw[<- hr21] at hA23)
    refine gm tv82 15 [5] fun B26=>?_;refine cN e23 (fun p29 e30=>?_) (fun p33 e34=>?_)
    · refine gm tv82 10 [] fun _=>?_;refine givec 4 rfl ?_;refine gx tv82 7 ?_;subst e30;exact qr3
    refine gx tv82 5 ?_;refine ef (bsl 6 Method.pc [r.1] tv82 rfl rfl rfl rfl rfl (fun _=>rfl) rfl (by decide) (by decide) rfl fun u35=>?_);refine ef (app tv82 [r.1] rfl rfl rfl rfl rfl rfl rfl rfl rfl (src_o rfl rfl) (by first|omega|(simp;omega)) rfl fun u36=>?_);refine gy tv82 8 ?_;refine next ⟨f1,(out++[r.1]),(v+1),(u36)⟩ rfl rfl ⟨rfl,rfl,trivial⟩ ⟨rfl,trivial⟩ ?_ ?_
    · (try simp only[]);omega
    exact⟨by (try simp only[]);omega,e34,(by (try simp only[List.length_append,List.length_cons,List.length_nil]);omega)⟩
  refine gx tv82 6 ?_;refine aN [1,2,5,6,7,8,9] 7 mixd ?_;refine gX tv82 [0,1,2] 4 ?_;refine vC 3 rfl (Z8_ _) rfl fun w39=>?_;refine vE 4 rfl (sA tv82 ?_);refine gX tv82 [5,6] 0 ?_;refine vD ?_;refine gx tv82 1 ?_;refine givec 4 rfl ?_;refine gx tv82 1 ?_;subst e38;exact qr3
theorem eqg170:Tryz.prog.eqGuardType Tryz.prog.depth 170=false:=by kernel_rfl
theorem sz4:Sz Tryz.prog 4 1:=fun w=>by kernel_rfl
theorem sz59:Sz Tryz.prog 59 7:=fun w=>by kernel_rfl
theorem veq170 (p q:TakerS):∀ (H:Hp) (vs us:List Value),Sims H (TakerS.pc p) vs->Sims H (TakerS.pc q) us->EqV Tryz.prog 10000 170 (.agg vs.toArray) (.agg us.toArray) (decide (p=q)):=by
  intro H vs us hv hu;obtain⟨_,_,rfl,v0,v_0⟩:=hv.inv_cons;obtain⟨_,_,rfl,v1,v_1⟩:=v_0.inv_cons;obtain⟨_,_,rfl,v2,v_2⟩:=v_1.inv_cons
  cases v_2.inv_nil
  cases v0.inv_int.1;cases v1.inv_int.1;cases v2.inv_str.1
  obtain⟨_,_,rfl,u0,u_0⟩:=hu.inv_cons;obtain⟨_,_,rfl,u1,u_1⟩:=u_0.inv_cons;obtain⟨_,_,rfl,u2,u_2⟩:=u_1.inv_cons
  cases u_2.inv_nil
  cases u0.inv_int.1;cases u1.inv_int.1;cases u2.inv_str.1
  exact EqV.to (L9_ Tryz.underlying170 (by kernel_rfl) (If_ (by decide) ag5 rfl rfl (H5_ Tryz.underlying5) (If_ (by decide) ag27 rfl rfl (H5_ Tryz.underlying27) (If_ (by decide) ag9 rfl rfl (Hm_ Tryz.underlying9) Ls_)))) (by obtain⟨a0,a1,a2⟩:=p;obtain⟨b0,b1,b2⟩:=q;rw[Bool.eq_iff_iff];simp)
abbrev ty91:TI:=⟨.slc 101,1,24,[.sl Act28R.pc []]⟩
abbrev ty97:TI:=⟨.agg [(0,1),(1,1),(2,1),(3,1),(4,1),(5,5),(10,35)],45,528,[.str [], .str [], .int .i64 0, .bool false, .bool false, .bool false, .bool false, .bool false, .bool false, .bool false, .int .i64 0, .sl L_.pc [], .sl LentR.pc [], .bool false, .bool false, .int .u64 0, .sl DeedR.pc [], .int .i64 0, .sl L_.pc [], .sl LentR.pc [], .bool false, .bool false, .int .u64 0, .sl DeedR.pc [], .int .i64 0, .sl L_.pc [], .sl LentR.pc [], .bool false, .bool false, .int .u64 0, .sl DeedR.pc [], .int .i64 0, .sl L_.pc [], .sl LentR.pc [], .bool false, .bool false, .int .u64 0, .sl DeedR.pc [], .int .i64 0, .sl L_.pc [], .sl LentR.pc [], .bool false, .bool false, .int .u64 0, .sl DeedR.pc []]⟩
abbrev ty101:TI:=⟨.agg [(0,1),(1,10),(11,1),(12,1),(13,1),(14,9),(23,1)],24,272,[.int .u8 0, .int .u8 0, .int .u8 0, .str [], .str [], .str [], .sl Pair.pc [], .str [], .int .u64 0, .int .u64 0, .bool false, .str [], .int .u64 0, .int .u8 0, .int .u64 0, .str [], .str [], .sl Pair.pc [], .str [], .int .u64 0, .int .u8 0, .bool false, .bool false, .int .u8 0]⟩
abbrev ty105:TI:=⟨.slc 170,1,24,[.sl TakerS.pc []]⟩
abbrev ty170:TI:=⟨.agg [(0,1),(1,1),(2,1)],3,32,[.int .u8 0, .int .u64 0, .str []]⟩
abbrev ty171:TI:=⟨.agg [(0,7),(7,1),(8,1)],9,104,[.int .u64 0, .str [], .str [], .sl Pair.pc [], .str [], .int .u64 0, .int .u8 0, .bool false, .bool false]⟩
def tbv83:Tb:=[(3,ty3),(4,ty4),(5,ty5),(9,ty9),(27,ty27),(40,ty40),(47,ty47),(51,ty51),(56,ty56),(57,ty57),(59,ty59),(64,ty64),(67,ty67),(91,ty91),(97,ty97),(99,ty99),(101,ty101),(105,ty105),(126,ty126),(167,ty167),(170,ty170),(171,ty171),(173,ty173),(180,ty180),(181,ty181),(182,ty182),(184,Y3_),(258,ty258),(269,ty269)]
theorem tv83:tbB Tryz.prog tbv83=true:=by kernel_rfl
theorem Vz_ (a:Mail) (b:Mail):Fn Tryz.prog gb 165 [.agg (Mail.pc a), .agg (Mail.pc b)] (.bool (decide (a=b))):=by
  refine fC Tryz.func165 tv83 Tryz.ntmps165 fun w N H hG=>?_;refine gmy tv83 33 [0,1] fun B2=>?_;refine callg rfl (fun hc=>(Ts_ _ _)) rfl ⟨(fun hc=>hc),(fun hc=>hc),trivial⟩ rfl rfl fun _=>?_;refine gy tv83 26 ?_;refine rt1 rfl rfl (ple ?_);exact congrArg PV.bool (by rw[Bool.eq_iff_iff];first|(simp[Mail.eq_iff,and_assoc];done)|(simp[Mail.eq_iff];grind))
theorem r12_Same (a:Reply) (b:Reply):Fn Tryz.prog gb 125 [.agg (Reply.pc a), .agg (Reply.pc b)] (.bool (decide (a=b))):=by
  refine fC Tryz.func125 tv83 Tryz.ntmps125 fun w N H hG=>?_;refine gmy tv83 54 [0,1] fun B2=>?_;refine callg rfl (fun hc=>(Vz_ _ _)) rfl ⟨(fun hc=>hc),(fun hc=>hc),trivial⟩ rfl rfl fun _=>?_;refine gy tv83 5 ?_;refine rt1 rfl rfl (ple ?_);exact congrArg PV.bool (by rw[Bool.eq_iff_iff];first|(simp[Reply.eq_iff,and_assoc];done)|(simp[Reply.eq_iff];grind))
theorem Va_:Fn Tryz.prog gb 62 [] (.bool (Qd_)):=by
  refine fC Tryz.func62 tv83 Tryz.ntmps62 fun w N H hG=>?_;have e0:=Qd_.eq_1;refine gx tv83 7 ?_;refine call l11_awake rfl rfl fun w1=>?_;refine gx tv83 4 ?_;exact rt1 rfl rfl (Au_ (fun r:Bool=> .bool r) e0 (ple rfl))
theorem Wi_ (s:Bs):Fn Tryz.prog gb 202 [.str s] (.tup [.agg (Frame.pc ((E3_ s).1)), .int .i64 ((E3_ s).2.1), .int .i64 ((E3_ s).2.2)]):=by
  refine fC Tryz.func202 tv83 Tryz.ntmps202 fun w N H hG=>?_;have e0:=E3_.eq_1 s;generalize E3_ s=z at e0 ⊢;refine gm tv83 15 [0] fun B2=>?_;refine cD e0 (fun p4 e5=>?_) (fun p7 e8=>?_)
  · refine gm tv83 10 [] fun _=>?_;subst e5;exact qr3
  refine gx tv83 3 ?_;refine aN [1,2,3,4,5,6] 9 mixd ?_;refine gX tv83 [0] 8 ?_;have :=u8r (s.getD 2 0);refine vq 1 (sidx tv83 2 rfl rfl rfl rfl rfl (by omega)) rfl (by kernel_rfl) rfl fun w9=>?_;refine gXy tv83 [2,3,4] 4 ?_;have :=u8r (s.getD 3 0);refine vq 5 (sidx tv83 3 rfl rfl rfl rfl rfl (by omega)) rfl (by kernel_rfl) rfl fun w10=>?_;refine gXy tv83 [6,7,8] 0 ?_;refine vD ?_;refine gx tv83 8 ?_;refine cD e8 (fun p12 e13=>?_) (fun p15 e16=>?_)
  · refine gm tv83 10 [] fun _=>?_;subst e13;exact qr3
  refine gy tv83 12 ?_;refine cD e16 (fun p18 e19=>?_) (fun p21 e22=>?_)
  · refine gm tv83 10 [] fun _=>?_;subst e19;exact qr3
  have :=u8r (s.getD (((((s.getD 2 0).toNat)*256)+((s.getD 3 0).toNat))+8) 0);refine gy tv83 8 ?_;refine q1 (sidx tv83 (((((s.getD 2 0).toNat)*256)+((s.getD 3 0).toNat))+8) rfl rfl rfl rfl (by omega) (by omega)) rfl fun w23=>?_;refine gx tv83 3 ?_;refine cN e22 (fun p26 e27=>?_) (fun p30 e31=>?_)
  · refine gm tv83 10 [] fun _=>?_;subst e27;exact qr3
  refine gx tv83 4 ?_;refine aN [1,2,3,4,5,6] 14 mixd ?_;refine gXy tv83 [0,1,2,3,4] 9 ?_;refine vq 5 (ssl tv83 (((((s.getD 2 0).toNat)*256)+((s.getD 3 0).toNat))+4) (((((s.getD 2 0).toNat)*256)+((s.getD 3 0).toNat))+8) rfl rfl rfl rfl rfl (by omega) (by omega) (by omega) (by omega)) rfl (by kernel_rfl) rfl fun w32=>?_;refine gXy tv83 [6,7,8] 5 ?_;refine vq 9 (sshi tv83 (((((s.getD 2 0).toNat)*256)+((s.getD 3 0).toNat))+4) rfl rfl rfl rfl (by omega) (by omega)) rfl (by kernel_rfl) rfl fun w33=>?_;refine vC 10 rfl (r2_Sum _) rfl fun w34=>?_;have :=Lb_ [(s.take (((((s.getD 2 0).toNat)*256)+((s.getD 3 0).toNat))+4))];refine gX tv83 [11] 2 ?_;refine vC 12 rfl (r1_Num _ _) rfl fun w35=>?_;have :=Ad_ (numK 4) (H2_ [(s.take (((((s.getD 2 0).toNat)*256)+((s.getD 3 0).toNat))+4))]).toNat;have :=Yy_ 4;have :numK 4=4:=by decide
  refine gX tv83 [13] 0 ?_;refine vD ?_;refine gx tv83 1 ?_;refine cN e31 (fun p38 e39=>?_) (fun p42 e43=>?_)
  · refine gm tv83 10 [] fun _=>?_;subst e39;exact qr3
  refine gx tv83 3 ?_;refine aN [0,1,2,3,4,5,6] 14 mixd ?_;refine gX tv83 [0] 13 ?_;have :=u8r (s.getD 0 0);refine vq 1 (sidx tv83 0 rfl rfl rfl rfl rfl (by omega)) rfl (by kernel_rfl) rfl fun w44=>?_;refine gX tv83 [2] 11 ?_;have :=u8r (s.getD 1 0);refine vq 3 (sidx tv83 1 rfl rfl rfl rfl rfl (by omega)) rfl (by kernel_rfl) rfl fun w45=>?_;refine gXy tv83 [4,5,6] 7 ?_;refine vq 7 (ssl tv83 4 (((((s.getD 2 0).toNat)*256)+((s.getD 3 0).toNat))+4) rfl rfl rfl rfl rfl rfl (by omega) (by omega) (by omega)) rfl (by kernel_rfl) rfl fun w46=>?_;refine gXy tv83 [8,9,10] 3 ?_;refine vtp 11 rfl (by kernel_rfl) (by kernel_rfl) (sA tv83 ?_);refine gX tv83 [12,13] 0 ?_;refine vD ?_;refine gx tv83 2 ?_;subst e43;exact qr3
theorem W0_ (l:List Act28R):Fn Tryz.prog gb 27 [.sl Act28R.pc l] (.bool (Kc_ l)):=by
  refine fC Tryz.func27 tv83 Tryz.ntmps27 fun w N H hG=>?_;have l_l:l.length<=140737488355328:=w.1.1;have e0:=Kc_.eq_1 l;generalize Kc_ l=z at e0 ⊢;refine gx tv83 14 ?_;refine loop (ι:=Nat) [0,5,6] [] (fun k=>[(7, .int .i64 (k:Int))]) (fun k=>[]) (fun k=>k<=l.length/\z=Em_ l (l.drop k)) (fun k=>l.length-k) 0 ⟨rfl,trivial⟩ trivial ?_ ?_
  · exact⟨Nat.zero_le _,e0⟩
  rintro k ⟨hp1_1,hp1_2⟩;refine gx tv83 6 ?_;refine cn rfl (fun p3=>?_) fun p21=>?_
  · have e4:=C1_ (f:=fun zz=>Em_ l zz) hp1_2 (Fr_ (by omega)) (Em_.eq_2 _ _ _);have hc5:=getG (xs:=l) (k:=k) (by omega);refine gx tv83 6 ?_;refine q1 (qidx tv83 k rfl rfl rfl hc5 rfl rfl rfl rfl) rfl fun w6=>?_;refine gm tv83 9 [0] fun B8=>?_;refine call (Xa_ _) rfl rfl fun w9=>?_;refine gy tv83 11 ?_;refine callg rfl (fun hc=>(Xc_ _)) rfl ⟨(fun hc=>hc),trivial⟩ rfl rfl fun _=>?_;refine gy tv83 4 ?_;refine cE e4 (fun h10 e11=>?_) (fun h10 e20=>?_)
    · refine gx tv83 11 ?_;subst e11;exact qr1
    have h12:=orl h10;have h13:=orl h12;have h14:=Bf_ h13;have hb14:=l11_sm h14
    (try obtain⟨hb14a,hb14b⟩:=hb14)
    have h16:=orr h12;have p17:=df h16;have h18:=orr h10;have h19:=Bf_ h18;refine gy tv83 7 ?_;refine next (k+1) rfl rfl ⟨rfl,trivial⟩ trivial ?_ ?_
    · (try simp only[]);omega
    exact⟨by (try simp only[]);omega,e20⟩
  have e22:=C1_ (f:=fun zz=>Em_ l zz) hp1_2 (Gb_ (by omega)) (Em_.eq_1 _);refine gx tv83 14 ?_;subst e22;exact qr1
theorem Jd_ (a:Act28R):Fn Tryz.prog gb 128 [.agg (Act28R.pc a)] (.int .i64 (F5_ a)):=by
  refine fC Tryz.func128 tv83 Tryz.ntmps128 fun w N H hG=>?_;have a_dow_r:0<=a.dow/\a.dow<=255:=w.1.1;have a_m_channel_r:0<=a.m.channel/\a.m.channel<=255:=w.1.2.1;have a_m_kind_r:0<=a.m.kind/\a.m.kind<=255:=w.1.2.2.1;have a_m_name_l:a.m.name.length<=9223372036854775807:=w.1.2.2.2.1;have a_m_other_l:a.m.other.length<=9223372036854775807:=w.1.2.2.2.2.1;have a_m_key_l:a.m.key.length<=9223372036854775807:=w.1.2.2.2.2.2.1;have a_m_head_l:a.m.head.length<=140737488355328:=w.1.2.2.2.2.2.2.1.1;have a_m_body_l:a.m.body.length<=9223372036854775807:=w.1.2.2.2.2.2.2.2.1;have a_m_n_r:0<=a.m.n/\a.m.n<=18446744073709551615:=w.1.2.2.2.2.2.2.2.2.1;have a_m_m_r:0<=a.m.m/\a.m.m<=18446744073709551615:=w.1.2.2.2.2.2.2.2.2.2.1;have a_chunk_l:a.chunk.length<=9223372036854775807:=w.1.2.2.2.2.2.2.2.2.2.2.2.1;have a_tick_r:0<=a.tick/\a.tick<=18446744073709551615:=w.1.2.2.2.2.2.2.2.2.2.2.2.2.1;have a_err_r:0<=a.err/\a.err<=255:=w.1.2.2.2.2.2.2.2.2.2.2.2.2.2.1;have a_item_mail_id_r:0<=a.item.mail.id/\a.item.mail.id<=18446744073709551615:=w.1.2.2.2.2.2.2.2.2.2.2.2.2.2.2.1;have a_item_mail_shop_l:a.item.mail.shop.length<=9223372036854775807:=w.1.2.2.2.2.2.2.2.2.2.2.2.2.2.2.2.1;have a_item_mail_key_l:a.item.mail.key.length<=9223372036854775807:=w.1.2.2.2.2.2.2.2.2.2.2.2.2.2.2.2.2.1;have a_item_mail_head_l:a.item.mail.head.length<=140737488355328:=w.1.2.2.2.2.2.2.2.2.2.2.2.2.2.2.2.2.2.1.1;have a_item_mail_body_l:a.item.mail.body.length<=9223372036854775807:=w.1.2.2.2.2.2.2.2.2.2.2.2.2.2.2.2.2.2.2.1;have a_item_mail_due_r:0<=a.item.mail.due/\a.item.mail.due<=18446744073709551615:=w.1.2.2.2.2.2.2.2.2.2.2.2.2.2.2.2.2.2.2.2.1;have a_item_mail_hops_r:0<=a.item.mail.hops/\a.item.mail.hops<=255:=w.1.2.2.2.2.2.2.2.2.2.2.2.2.2.2.2.2.2.2.2.2.1;have a_at__r:0<=a.at_/\a.at_<=255:=w.1.2.2.2.2.2.2.2.2.2.2.2.2.2.2.2.2.2.2.2.2.2.2.2.1;have e0:=F5_.eq_1 a;generalize F5_ a=z at e0 ⊢;refine gmy tv83 15 [0] fun B2=>?_;refine cD e0 (fun p4 e5=>?_) (fun p6 e7=>?_)
  · refine gx tv83 7 ?_;subst e5;exact qr1
  have :=Rl_ (1+((a.err/3)%21));refine gy tv83 14 ?_;subst e7;exact qr1
theorem r28_May_ok (s:SessR) (m:Method):Fn Tryz.prog gb 166 [.agg (SessR.pc s), .agg (Method.pc m)] (.int .i64 (Jn_ s m)):=by
  refine fC Tryz.func166 tv83 Tryz.ntmps166 fun w N H hG=>?_;have s_place_l:s.place.length<=9223372036854775807:=w.1.1;have s_rest_l:s.rest.length<=9223372036854775807:=w.1.2.1;have s_bad_r:-9223372036854775808<=s.bad/\s.bad<=9223372036854775807:=w.1.2.2.1;have m_channel_r:0<=m.channel/\m.channel<=255:=w.2.1.1;have m_kind_r:0<=m.kind/\m.kind<=255:=w.2.1.2.1;have m_name_l:m.name.length<=9223372036854775807:=w.2.1.2.2.1;have m_other_l:m.other.length<=9223372036854775807:=w.2.1.2.2.2.1;have m_key_l:m.key.length<=9223372036854775807:=w.2.1.2.2.2.2.1;have m_head_l:m.head.length<=140737488355328:=w.2.1.2.2.2.2.2.1.1;have m_body_l:m.body.length<=9223372036854775807:=w.2.1.2.2.2.2.2.2.1;have m_n_r:0<=m.n/\m.n<=18446744073709551615:=w.2.1.2.2.2.2.2.2.2.1;have m_m_r:0<=m.m/\m.m<=18446744073709551615:=w.2.1.2.2.2.2.2.2.2.2.1;have e0:=Jn_.eq_1 s m;generalize Jn_ s m=z at e0 ⊢;refine gm tv83 14 [0,1] fun B2=>?_;refine cE e0 (fun h4 e5=>?_) (fun h4 e6=>?_)
  · refine gx tv83 7 ?_;subst e5;exact qr1
  refine gx tv83 10 ?_;refine cE e6 (fun h7 e9=>?_) (fun h7 e27=>?_)
  · have h8:=Br_ h7;refine gy tv83 13 ?_;refine cE e9 (fun h10 e11=>?_) (fun h10 e18=>?_)
    · refine gx tv83 8 ?_;subst e11;exact qr1
    have h12:=orl h10;have h13:=Bf_ h12;have p14:=dt h13;have h15:=orr h10;have h16:=Bf_ h15;have p17:=dt h16;refine gx tv83 10 ?_;refine cN e18 (fun p21 e22=>?_) (fun p24 e25=>?_)
    · refine gx tv83 8 ?_;subst e22;exact qr1
    refine gx tv83 9 ?_;subst e25;exact qr1
  have h26:=Bf_ h7;refine gy tv83 15 ?_;refine cE e27 (fun h28 e29=>?_) (fun h28 e34=>?_)
  · refine gx tv83 7 ?_;subst e29;exact qr1
  have h30:=orl h28;have p31:=df h30;have h32:=orr h28;have p33:=df h32;refine gx tv83 10 ?_;refine cD e34 (fun p36 e37=>?_) (fun p38 e39=>?_)
  · refine gx tv83 7 ?_;subst e37;exact qr1
  refine gy tv83 12 ?_;refine q1g [37,38] rfl (fun hc=>qaia (m.channel).toNat rfl rfl Tryz.underlying94 sz4 (by omega) (by first|omega|(simp only[gOf,bl2] at *;omega))) ⟨(fun hc=>hc),(fun hc=>hc),trivial⟩ rfl rfl rfl fun _=>?_;refine q1gL [39] rfl (fun hc=>lyS1 (len:=5) (fun q=> .bool (A5.get s.opens q)) ((m.channel).toNat) 5 1 0 tv83 rfl rfl rfl rfl rfl rfl (by first|omega|(simp only[gOf,bl2] at *;omega)) (fun _=>rfl) (bw5 rfl rfl rfl rfl rfl)) ⟨(fun hc=>hc),trivial⟩ rfl rfl fun _=>?_;refine gy tv83 9 ?_;refine q1g [48,49] rfl (fun hc=>qaia (m.channel).toNat rfl rfl Tryz.underlying94 sz4 (by omega) (by first|omega|(simp only[gOf,bl2] at *;omega))) ⟨(fun hc=>hc),(fun hc=>hc),trivial⟩ rfl rfl rfl fun _=>?_;refine q1gL [50] rfl (fun hc=>lyS1 (len:=5) (fun q=> .bool (A5.get s.opens q)) ((m.channel).toNat) 5 1 0 tv83 rfl rfl rfl rfl rfl rfl (by first|omega|(simp only[gOf,bl2] at *;omega)) (fun _=>rfl) (bw5 rfl rfl rfl rfl rfl)) ⟨(fun hc=>hc),trivial⟩ rfl rfl fun _=>?_;refine gy tv83 5 ?_;refine cE e39 (fun h40 e41=>?_) (fun h40 e44=>?_)
  · refine gx tv83 7 ?_;subst e41;exact qr1
  have h42:=orl h40;have h43:=orr h40;refine gx tv83 8 ?_;subst e44;exact qr1
theorem Jb_ (m:Method) (kind:Int) (n:Int) (e:Int):Fn Tryz.prog gb 173 [.agg (Method.pc m), .int .u8 kind, .int .u64 n, .int .u64 e] (.sl Reply.pc (Gz_ m kind n e)):=by
  refine fC Tryz.func173 tv83 Tryz.ntmps173 fun w N H hG=>?_;have e0:=Gz_.eq_1 m kind n e;refine gm tv83 14 [0] fun B2=>?_;refine ef (bsl 1 Reply.pc [(⟨m.channel,kind,n,e,false,[],(⟨0,[],[],[],[],0,0⟩:Mail)⟩:Reply)] tv83 rfl rfl rfl rfl rfl (fun _=>rfl) rfl (by decide) (by decide) rfl fun u3=>?_);refine gx tv83 3 ?_;refine givec 1 rfl ?_;refine gx tv83 1 ?_;exact rt1 rfl rfl (Au_ (fun r:(List Reply)=> .sl Reply.pc r) e0 (ple rfl))
theorem D4_ (m:Method) (e:Int):Fn Tryz.prog gb 168 [.agg (Method.pc m), .int .i64 e] (.sl Reply.pc (Bw_ m e)):=by
  refine fC Tryz.func168 tv83 Tryz.ntmps168 fun w N H hG=>?_;have e0:=Bw_.eq_1 m e;generalize Bw_ m e=z at e0 ⊢;refine gm tv83 13 [0] fun B2=>?_;refine cD e0 (fun p4 e5=>?_) (fun p9 e10=>?_)
  · refine gx tv83 3 ?_;refine cV e5 R12_ (Jb_ _ _ _ _) rfl fun r hr6 e8 w7=>?_;refine gx tv83 5 ?_;subst e8;exact qr1
  refine gx tv83 7 ?_;refine cV e10 R12_ (Jb_ _ _ _ _) rfl fun r1 hr11 e13 w12=>?_;refine gx tv83 4 ?_;subst e13;exact qr1
theorem P4_ (c:ChanR) (tick:Int) (hc:COk c 10000000:=by first|assumption|exact Qc_ (by assumption) (by omega) (by omega)|exact P3_ (by assumption) (by omega) (by omega)|exact Mf_ (by assumption) (by omega)|exact Fa_ _|exact L2_ _):Fn Tryz.prog gb 87 [.agg (ChanR.pc c), .int .u64 tick] (.sl DeedR.pc (Ip_ c tick)):=by
  refine fC Tryz.func87 tv83 Tryz.ntmps87 fun w N H hG=>?_;obtain⟨hc1,hc2,hc3,hc4⟩:=id hc;obtain⟨hcd1,hcd2,hcd3⟩:=id hc4;have e0:=Ip_.eq_1 c tick;refine gm tv83 21 [0] fun B2=>?_;refine sw_own (t:=5) (k:=29) (e:=184) 1 DeedR.pc rfl rfl ?_;refine loop (ι:=Nat×(List DeedR)×Value) [1,4,9,10] [0] (fun ⟨k,out,u_out⟩=>[(11, .int .i64 (k:Int)),(5, .osl 1)]) (fun ⟨k,out,u_out⟩=>[(1, .arr u_out 29 184 DeedR.pc out)]) (fun ⟨k,out,u_out⟩=>k<=c.lent.length/\Ip_ c tick=Eo_ tick (c.lent.drop k) out/\out.length<=k) (fun ⟨k,out,u_out⟩=>c.lent.length-k) ⟨0,[],(.slice none 0 0)⟩ ⟨rfl,rfl,trivial⟩ ⟨rfl,trivial⟩ ?_ ?_
  · exact⟨Nat.zero_le _,e0,(by first|omega|(simp;done)|(simp;omega))⟩
  rintro⟨k,out,u_out⟩ ⟨hp3_1,hp3_2,hp3_3⟩;refine gx tv83 6 ?_;refine cn rfl (fun p5=>?_) fun p13=>?_
  · have e6:=C1_ (f:=fun zz=>Eo_ tick zz out) hp3_2 (Fr_ (by omega)) (Eo_.eq_2 _ _ _ _);have hc7:=getG (xs:=c.lent) (k:=k) (by omega);refine gx tv83 6 ?_;refine q1 (qidx tv83 k rfl rfl rfl hc7 rfl rfl rfl rfl) rfl fun w8=>?_;refine gm tv83 13 [2] fun B10=>?_;refine ef (bsl 3 DeedR.pc [(⟨8,tick,(⟨[],0,[]⟩:ShopR),(⟨[],0,0,[]⟩:Aa_),(⟨[],[],false,[],[],false⟩:BindR),(gt c.lent k).queue,(gt c.lent k).id,2,0,0,0,(⟨0,[],[],[],[],0,0⟩:Mail),[]⟩:DeedR)] tv83 rfl rfl rfl rfl rfl (fun _=>rfl) rfl (by decide) (by decide) rfl fun u11=>?_);refine ef (app tv83 [(⟨8,tick,(⟨[],0,[]⟩:ShopR),(⟨[],0,0,[]⟩:Aa_),(⟨[],[],false,[],[],false⟩:BindR),(gt c.lent k).queue,(gt c.lent k).id,2,0,0,0,(⟨0,[],[],[],[],0,0⟩:Mail),[]⟩:DeedR)] rfl rfl rfl rfl rfl rfl rfl rfl rfl (src_o rfl rfl) (by first|omega|(simp;omega)) rfl fun u12=>?_);refine gy tv83 8 ?_;refine next ⟨(k+1),(out++[(⟨8,tick,(⟨[],0,[]⟩:ShopR),(⟨[],0,0,[]⟩:Aa_),(⟨[],[],false,[],[],false⟩:BindR),(gt c.lent k).queue,(gt c.lent k).id,2,0,0,0,(⟨0,[],[],[],[],0,0⟩:Mail),[]⟩:DeedR)]),(u12)⟩ rfl rfl ⟨rfl,rfl,trivial⟩ ⟨rfl,trivial⟩ ?_ ?_
    · (try simp only[]);omega
    exact⟨by (try simp only[]);omega,e6,(by (try simp only[List.length_append,List.length_cons,List.length_nil]);omega)⟩
  have e14:=C1_ (f:=fun zz=>Eo_ tick zz out) hp3_2 (Gb_ (by omega)) (Eo_.eq_1 _ _);refine gx tv83 11 ?_;refine givec 1 rfl ?_;refine gx tv83 1 ?_;exact rt1 rfl rfl (Au_ (fun r:(List DeedR)=> .sl DeedR.pc r) e14 (ple rfl))
theorem Vt_ (m:Method) (tick:Int):Fn Tryz.prog gb 169 [.agg (Method.pc m), .int .u64 tick] (.sl DeedR.pc (Hc_ m tick)):=by
  refine fC Tryz.func169 tv83 Tryz.ntmps169 fun w N H hG=>?_;have e0:=Hc_.eq_1 m tick;generalize Hc_ m tick=z at e0 ⊢;refine gmy tv83 53 [0,1,2] fun B2=>?_;refine cD e0 (fun p6 e7=>?_) (fun p18 e19=>?_)
  · refine gx tv83 14 ?_;refine cD e7 (fun p9 e10=>?_) (fun p14 e15=>?_)
    · refine gx tv83 8 ?_;refine q1 (qconv tv83 rfl rfl rfl rfl (rg_u8 (by omega))) rfl fun w11=>?_;refine gm tv83 11 [] fun _=>?_;refine ef (bsl 3 DeedR.pc [(⟨0,tick,(⟨m.name,255,m.other⟩:ShopR),(⟨[],0,0,[]⟩:Aa_),(⟨[],[],false,[],[],false⟩:BindR),[],0,0,0,0,0,(⟨0,[],[],[],[],0,0⟩:Mail),[]⟩:DeedR)] tv83 rfl rfl rfl rfl rfl (fun _=>rfl) rfl (by decide) (by decide) rfl fun u13=>?_);refine gx tv83 3 ?_;refine givec 3 rfl ?_;refine gx tv83 1 ?_;subst e10;exact qr1
    refine gm tv83 18 [] fun _=>?_;refine ef (bsl 3 DeedR.pc [(⟨0,tick,(⟨m.name,(IntKind.wrap .u8 m.n),m.other⟩:ShopR),(⟨[],0,0,[]⟩:Aa_),(⟨[],[],false,[],[],false⟩:BindR),[],0,0,0,0,0,(⟨0,[],[],[],[],0,0⟩:Mail),[]⟩:DeedR)] tv83 rfl rfl rfl rfl rfl (fun _=>rfl) rfl (by decide) (by decide) rfl fun u17=>?_);refine gx tv83 3 ?_;refine givec 3 rfl ?_;refine gx tv83 1 ?_;subst e15;exact qr1
  refine gx tv83 6 ?_;refine cD e19 (fun p21 e22=>?_) (fun p25 e26=>?_)
  · refine gm tv83 17 [] fun _=>?_;refine ef (bsl 3 DeedR.pc [(⟨1,tick,(⟨[],0,[]⟩:ShopR),(⟨[],0,0,[]⟩:Aa_),(⟨[],[],false,[],[],false⟩:BindR),m.name,0,0,0,0,0,(⟨0,[],[],[],[],0,0⟩:Mail),[]⟩:DeedR)] tv83 rfl rfl rfl rfl rfl (fun _=>rfl) rfl (by decide) (by decide) rfl fun u24=>?_);refine gx tv83 3 ?_;refine givec 3 rfl ?_;refine gx tv83 1 ?_;subst e22;exact qr1
  refine gx tv83 6 ?_;refine cD e26 (fun p28 e29=>?_) (fun p32 e33=>?_)
  · refine gm tv83 24 [] fun _=>?_;refine ef (bsl 3 DeedR.pc [(⟨2,tick,(⟨[],0,[]⟩:ShopR),(⟨m.name,m.n,m.m,m.other⟩:Aa_),(⟨[],[],false,[],[],false⟩:BindR),[],0,0,0,0,0,(⟨0,[],[],[],[],0,0⟩:Mail),[]⟩:DeedR)] tv83 rfl rfl rfl rfl rfl (fun _=>rfl) rfl (by decide) (by decide) rfl fun u31=>?_);refine gx tv83 3 ?_;refine givec 3 rfl ?_;refine gx tv83 1 ?_;subst e29;exact qr1
  refine gx tv83 6 ?_;refine cD e33 (fun p35 e36=>?_) (fun p39 e40=>?_)
  · refine gm tv83 17 [] fun _=>?_;refine ef (bsl 3 DeedR.pc [(⟨3,tick,(⟨[],0,[]⟩:ShopR),(⟨[],0,0,[]⟩:Aa_),(⟨[],[],false,[],[],false⟩:BindR),m.name,0,0,0,0,0,(⟨0,[],[],[],[],0,0⟩:Mail),[]⟩:DeedR)] tv83 rfl rfl rfl rfl rfl (fun _=>rfl) rfl (by decide) (by decide) rfl fun u38=>?_);refine gx tv83 3 ?_;refine givec 3 rfl ?_;refine gx tv83 1 ?_;subst e36;exact qr1
  refine gx tv83 1 ?_;obtain⟨o,e_o,q_o⟩:=Cc_ e40;refine Dv_ (ι:=Bool) [4,5,6,30] [0,1,2] (fun v=>[(70, .bool v)]) (fun v=>[]) (fun v=>o=v) ?_ ?_
  · refine gx tv83 6 ?_;refine cD e_o (fun p42 e43=>?_) (fun p44 e45=>?_)
    · refine gx tv83 1 ?_;refine nX (decide (m.kind=7)) ?_ ⟨rfl,trivial⟩ trivial;exact e43
    refine gx tv83 4 ?_;refine nX (decide (m.kind=9)) ?_ ⟨rfl,trivial⟩ trivial;exact e45
  rintro v hp46;have e47:=D5_ q_o hp46;refine gx tv83 1 ?_;refine cE e47 (fun h48 e49=>?_) (fun h48 e52=>?_)
  · refine gm tv83 16 [] fun _=>?_;refine ef (bsl 3 DeedR.pc [(⟨4,tick,(⟨[],0,[]⟩:ShopR),(⟨[],0,0,[]⟩:Aa_),(⟨m.name,m.other,((decide (m.kind=9))||(decide (m.kind=10))),m.key,m.head,m.yes⟩:BindR),[],0,0,0,0,0,(⟨0,[],[],[],[],0,0⟩:Mail),[]⟩:DeedR)] tv83 rfl rfl rfl rfl rfl (fun _=>rfl) rfl (by decide) (by decide) rfl fun u51=>?_);refine gx tv83 3 ?_;refine givec 3 rfl ?_;refine gx tv83 1 ?_;subst e49;exact qr1
  refine gx tv83 1 ?_;obtain⟨o1,e_o1,q_o1⟩:=Cc_ e52;refine Dv_ (ι:=Bool) [4,5,6] [0,1,2] (fun v1=>[(76, .bool v1)]) (fun v1=>[]) (fun v1=>o1=v1) ?_ ?_
  · refine gx tv83 6 ?_;refine cD e_o1 (fun p54 e55=>?_) (fun p56 e57=>?_)
    · refine gx tv83 1 ?_;refine nX (decide (m.kind=8)) ?_ ⟨rfl,trivial⟩ trivial;exact e55
    refine gx tv83 4 ?_;refine nX (decide (m.kind=10)) ?_ ⟨rfl,trivial⟩ trivial;exact e57
  rintro v1 hp58;have e59:=D5_ q_o1 hp58;refine gx tv83 1 ?_;refine cE e59 (fun h60 e61=>?_) (fun h60 e64=>?_)
  · refine gm tv83 16 [] fun _=>?_;refine ef (bsl 3 DeedR.pc [(⟨5,tick,(⟨[],0,[]⟩:ShopR),(⟨[],0,0,[]⟩:Aa_),(⟨m.name,m.other,((decide (m.kind=9))||(decide (m.kind=10))),m.key,m.head,m.yes⟩:BindR),[],0,0,0,0,0,(⟨0,[],[],[],[],0,0⟩:Mail),[]⟩:DeedR)] tv83 rfl rfl rfl rfl rfl (fun _=>rfl) rfl (by decide) (by decide) rfl fun u63=>?_);refine gx tv83 3 ?_;refine givec 3 rfl ?_;refine gx tv83 1 ?_;subst e61;exact qr1
  refine gx tv83 6 ?_;refine ef (bsl 3 DeedR.pc [(⟨0,tick,(⟨[],0,[]⟩:ShopR),(⟨[],0,0,[]⟩:Aa_),(⟨[],[],false,[],[],false⟩:BindR),[],0,0,0,0,0,(⟨0,[],[],[],[],0,0⟩:Mail),[]⟩:DeedR)] tv83 rfl rfl rfl rfl rfl (fun _=>rfl) rfl (by decide) (by decide) rfl fun u65=>?_);refine gx tv83 3 ?_;refine givec 3 rfl ?_;refine gx tv83 1 ?_;subst e64;exact qr1
theorem Ta_ (m:Method) (tick:Int) (due:Int):Fn Tryz.prog gb 208 [.agg (Method.pc m), .int .u64 tick, .int .u64 due] (.agg (DeedR.pc (Ib_ m tick due))):=by
  refine fC Tryz.func208 tv83 Tryz.ntmps208 fun w N H hG=>?_;have e0:=Ib_.eq_1 m tick due;refine gm tv83 24 [0,1] fun B2=>?_;exact rt1 rfl rfl (Au_ (fun r:DeedR=> .agg (DeedR.pc r)) e0 (ple rfl))
theorem r28_At_ok (l:List DeedR) (tick:Int) (hl:l.length<=20000000:=by omega):Fn Tryz.prog gb 211 [.sl DeedR.pc l, .int .u64 tick] (.sl DeedR.pc (Rc_ l tick)):=by
  refine fC Tryz.func211 tv83 Tryz.ntmps211 fun w N H hG=>?_;have e0:=Rc_.eq_1 l tick;refine gx tv83 19 ?_;refine sw_own (t:=5) (k:=29) (e:=184) 0 DeedR.pc rfl rfl ?_;refine loop (ι:=Nat×(List DeedR)×Value) [1,4,8,9] [] (fun ⟨k,out,u_out⟩=>[(10, .int .i64 (k:Int)),(5, .osl 0)]) (fun ⟨k,out,u_out⟩=>[(0, .arr u_out 29 184 DeedR.pc out)]) (fun ⟨k,out,u_out⟩=>k<=l.length/\Rc_ l tick=F8_ tick (l.drop k) out/\out.length<=k) (fun ⟨k,out,u_out⟩=>l.length-k) ⟨0,[],(.slice none 0 0)⟩ ⟨rfl,rfl,trivial⟩ ⟨rfl,trivial⟩ ?_ ?_
  · exact⟨Nat.zero_le _,e0,(by first|omega|(simp;done)|(simp;omega))⟩
  rintro⟨k,out,u_out⟩ ⟨hp1_1,hp1_2,hp1_3⟩;refine gx tv83 6 ?_;refine cn rfl (fun p3=>?_) fun p11=>?_
  · have e4:=C1_ (f:=fun zz=>F8_ tick zz out) hp1_2 (Fr_ (by omega)) (F8_.eq_2 _ _ _ _);have hc5:=getG (xs:=l) (k:=k) (by omega);refine gx tv83 6 ?_;refine q1 (qidx tv83 k rfl rfl rfl hc5 rfl rfl rfl rfl) rfl fun w6=>?_;refine gm tv83 15 [1] fun B8=>?_;refine ef (bsl 2 DeedR.pc [(⟨(gt l k).kind,tick,(gt l k).shop,(gt l k).queue,(gt l k).bind,(gt l k).name,(gt l k).id,(gt l k).how,(gt l k).frm,(gt l k).code,(gt l k).number,(gt l k).mail,(gt l k).text⟩:DeedR)] tv83 rfl rfl rfl rfl rfl (fun _=>rfl) rfl (by decide) (by decide) rfl fun u9=>?_);refine ef (app tv83 [(⟨(gt l k).kind,tick,(gt l k).shop,(gt l k).queue,(gt l k).bind,(gt l k).name,(gt l k).id,(gt l k).how,(gt l k).frm,(gt l k).code,(gt l k).number,(gt l k).mail,(gt l k).text⟩:DeedR)] rfl rfl rfl rfl rfl rfl rfl rfl rfl (src_o rfl rfl) (by first|omega|(simp;omega)) rfl fun u10=>?_);refine gy tv83 8 ?_;refine next ⟨(k+1),(out++[(⟨(gt l k).kind,tick,(gt l k).shop,(gt l k).queue,(gt l k).bind,(gt l k).name,(gt l k).id,(gt l k).how,(gt l k).frm,(gt l k).code,(gt l k).number,(gt l k).mail,(gt l k).text⟩:DeedR)]),(u10)⟩ rfl rfl ⟨rfl,rfl,trivial⟩ ⟨rfl,trivial⟩ ?_ ?_
    · (try simp only[]);omega
    exact⟨by (try simp only[]);omega,e4,(by (try simp only[List.length_append,List.length_cons,List.length_nil]);omega)⟩
  have e12:=C1_ (f:=fun zz=>F8_ tick zz out) hp1_2 (Gb_ (by omega)) (F8_.eq_1 _ _);refine gx tv83 11 ?_;refine givec 0 rfl ?_;refine gx tv83 1 ?_;exact rt1 rfl rfl (Au_ (fun r:(List DeedR)=> .sl DeedR.pc r) e12 (ple rfl))
theorem r28_own_ok (c:ChanR) (m:Method) (hc:COk c 10000000:=by first|assumption|exact Qc_ (by assumption) (by omega) (by omega)|exact P3_ (by assumption) (by omega) (by omega)|exact Mf_ (by assumption) (by omega)|exact Fa_ _|exact L2_ _):Fn Tryz.prog gb 172 [.agg (ChanR.pc c), .agg (Method.pc m)] (.tup [.agg (ChanR.pc ((H0_ c m).1)), .int .i64 ((H0_ c m).2)]):=by
  refine fC Tryz.func172 tv83 Tryz.ntmps172 fun w N H hG=>?_;obtain⟨hc1,hc2,hc3,hc4⟩:=id hc;obtain⟨hcd1,hcd2,hcd3⟩:=id hc4;have e0:=H0_.eq_1 c m;generalize H0_ c m=z at e0 ⊢;refine gm tv83 22 [0,1,2] fun B2=>?_;refine cD e0 (fun p6 e7=>?_) (fun p12 e13=>?_)
  · refine gx tv83 5 ?_;refine cV e7 R7_ (Td_ _ _) rfl fun r hr8 e10 w9=>?_;refine gm tv83 9 [] fun _=>?_;subst e10;exact qr2
  refine gx tv83 6 ?_;refine cD e13 (fun p15 e16=>?_) (fun p21 e22=>?_)
  · refine gx tv83 7 ?_;refine cV e16 R7_ (Zn_ _ _ _) rfl fun r1 hr17 e19 w18=>?_;refine gm tv83 9 [] fun _=>?_;subst e19;exact qr2
  refine gx tv83 6 ?_;refine cD e22 (fun p24 e25=>?_) (fun p30 e31=>?_)
  · refine gx tv83 5 ?_;refine cV e25 R7_ (Wz_ _ _) rfl fun r2 hr26 e28 w27=>?_;refine gm tv83 9 [] fun _=>?_;subst e28;exact qr2
  refine gx tv83 6 ?_;refine cD e31 (fun p33 e34=>?_) (fun p39 e40=>?_)
  · refine gx tv83 3 ?_;refine cV e34 R7_ (Zo_ _) rfl fun r3 hr35 e37 w36=>?_;refine gm tv83 9 [] fun _=>?_;subst e37;exact qr2
  refine gx tv83 6 ?_;refine cD e40 (fun p42 e43=>?_) (fun p48 e49=>?_)
  · refine gx tv83 3 ?_;refine cV e43 R7_ (Xk_ _) rfl fun r4 hr44 e46 w45=>?_;refine gm tv83 9 [] fun _=>?_;subst e46;exact qr2
  refine gx tv83 6 ?_;refine cV e49 R7_ (Q4_ _) rfl fun r5 hr50 e52 w51=>?_;refine gm tv83 7 [] fun _=>?_;subst e52;exact qr2
theorem Fm_ (a:List Reply) (b:List Reply):Fn Tryz.prog gb 83 [.sl Reply.pc a, .sl Reply.pc b] (.bool (Ec_ a b)):=by
  refine fC Tryz.func83 tv83 Tryz.ntmps83 fun w N H hG=>?_;have a_l:a.length<=140737488355328:=w.1.1;have b_l:b.length<=140737488355328:=w.2.1.1;have e0:=Ec_.eq_1 a b;generalize Ec_ a b=z at e0 ⊢;refine gx tv83 15 ?_;refine cN e0 (fun p3 e4=>?_) (fun p6 e7=>?_)
  · refine gx tv83 7 ?_;subst e4;exact qr1
  refine gx tv83 11 ?_;refine loop (ι:=Nat) [0,1,12] [] (fun k=>[(13, .int .i64 (k:Int))]) (fun k=>[]) (fun k=>k<=a.length/\z=C4_ b (a.drop k) k) (fun k=>a.length-k) 0 ⟨rfl,trivial⟩ trivial ?_ ?_
  · exact⟨Nat.zero_le _,e7⟩
  rintro k ⟨hp8_1,hp8_2⟩;refine gx tv83 6 ?_;refine cn rfl (fun p10=>?_) fun p24=>?_
  · have e11:=C1_ (f:=fun zz=>C4_ b zz k) hp8_2 (Fr_ (by omega)) (C4_.eq_2 _ _ _ _);refine gx tv83 11 ?_;refine aN [0,1,2,3,4,5] 10 mixd ?_;refine gX tv83 [0,1] 8 ?_;have hc12:=getG (xs:=a) (k:=k) (by omega);refine vq 2 (qidx tv83 k rfl rfl rfl hc12 rfl rfl rfl rfl) rfl (by kernel_rfl) rfl fun w13=>?_;refine gX tv83 [3,4,5] 4 ?_;have hc14:=getG (xs:=b) (k:=k) (by omega);refine vq 6 (qidx tv83 k rfl rfl rfl hc14 rfl rfl rfl rfl) rfl (by kernel_rfl) rfl fun w15=>?_;refine gX tv83 [7] 2 ?_;refine vC 8 rfl (r12_Same _ _) rfl fun w16=>?_;refine gX tv83 [9] 0 ?_;refine vD ?_;refine gx tv83 1 ?_;refine cN e11 (fun p19 e20=>?_) (fun p22 e23=>?_)
    · refine gx tv83 11 ?_;subst e20;exact qr1
    refine gy tv83 7 ?_;refine next (k+1) rfl rfl ⟨rfl,trivial⟩ trivial ?_ ?_
    · (try simp only[]);omega
    exact⟨by (try simp only[]);omega,e23⟩
  have e25:=C1_ (f:=fun zz=>C4_ b zz k) hp8_2 (Gb_ (by omega)) (C4_.eq_1 _ _);refine gx tv83 11 ?_;subst e25;exact qr1
theorem Ra_ (s:SessR) (t:TakerS) (x:ItemR) (hs:QOk s 10000000:=by first|assumption|exact Fq_ (by assumption) (by omega)):Fn Tryz.prog gb 82 [.agg (SessR.pc s), .agg (TakerS.pc t), .agg (ItemR.pc x)] (.tup [.agg (SessR.pc ((Ga_ s t x).1)), .agg (Reply.pc ((Ga_ s t x).2))]):=by
  refine fC Tryz.func82 tv83 Tryz.ntmps82 fun w N H hG=>?_;have s_place_l:s.place.length<=9223372036854775807:=w.1.1;have s_rest_l:s.rest.length<=9223372036854775807:=w.1.2.1;have s_bad_r:-9223372036854775808<=s.bad/\s.bad<=9223372036854775807:=w.1.2.2.1;have t_channel_r:0<=t.channel/\t.channel<=255:=w.2.1.1;have t_tag_r:0<=t.tag/\t.tag<=18446744073709551615:=w.2.1.2.1;have t_queue_l:t.queue.length<=9223372036854775807:=w.2.1.2.2.1;have x_mail_id_r:0<=x.mail.id/\x.mail.id<=18446744073709551615:=w.2.2.1.1;have x_mail_shop_l:x.mail.shop.length<=9223372036854775807:=w.2.2.1.2.1;have x_mail_key_l:x.mail.key.length<=9223372036854775807:=w.2.2.1.2.2.1;have x_mail_head_l:x.mail.head.length<=140737488355328:=w.2.2.1.2.2.2.1.1;have x_mail_body_l:x.mail.body.length<=9223372036854775807:=w.2.2.1.2.2.2.2.1;have x_mail_due_r:0<=x.mail.due/\x.mail.due<=18446744073709551615:=w.2.2.1.2.2.2.2.2.1;have x_mail_hops_r:0<=x.mail.hops/\x.mail.hops<=255:=w.2.2.1.2.2.2.2.2.2.1;have e0:=Ga_.eq_1 s t x;generalize Ga_ s t x=z at e0 ⊢;refine gmy tv83 19 [0,1,2,3,4] fun B2=>?_;refine q1g [14,15] rfl (fun hc=>qaia (t.channel).toNat rfl rfl Tryz.underlying94 sz4 (by omega) (by first|omega|(simp only[gOf,bl2] at *;omega))) ⟨(fun hc=>hc),(fun hc=>hc),trivial⟩ rfl rfl rfl fun _=>?_;refine q1gL [16] rfl (fun hc=>lyS1 (len:=5) (fun q=> .bool (A5.get s.opens q)) ((t.channel).toNat) 5 1 0 tv83 rfl rfl rfl rfl rfl rfl (by first|omega|(simp only[gOf,bl2] at *;omega)) (fun _=>rfl) (bw5 rfl rfl rfl rfl rfl)) ⟨(fun hc=>hc),trivial⟩ rfl rfl fun _=>?_;refine gy tv83 4 ?_;refine cE e0 (fun h7 e8=>?_) (fun h7 e14=>?_)
  · refine gm tv83 10 [] fun _=>?_;subst e8;exact qr2
  have h10:=orl h7;have p11:=df h10;have h12:=orr h7;have h13:=Bf_ h12;refine gm tv83 11 [5] fun B16=>?_;refine aN [6,7,8,9,10,11] 16 mixd ?_;refine gX tv83 [0,1,2,3,4] 11 ?_;refine vq 5 (qaia (t.channel).toNat rfl rfl Tryz.underlying95 sz59 (by omega) (by omega)) rfl (by kernel_rfl) rfl fun w17=>?_;refine gX tv83 [7,8,9,10,11,13] 4 ?_;refine vE 6 rfl (Iz_ (sz:=7) (len:=5) (fun q=>[.int .i64 ((A5.get s.chans q).credit), .sl L_.pc ((A5.get s.chans q).takers), .sl LentR.pc ((A5.get s.chans q).lent), .bool ((A5.get s.chans q).sure), .bool ((A5.get s.chans q).drafts), .int .u64 ((A5.get s.chans q).puts), .sl DeedR.pc ((A5.get s.chans q).held.l)]) ((t.channel).toNat) 10 7 0 tv83 rfl rfl rfl rfl rfl rfl rfl (by omega) (bw5 rfl rfl rfl rfl rfl) (bw5 rfl rfl rfl rfl rfl) rfl fun w18=>?_);refine vE 12 rfl (eC (Zi_ (A5.get s.chans ((t.channel).toNat)) (⟨x.mail.id,t.queue⟩:LentR) (hn:=by first|omega|exact Wo_ (by assumption) (by omega) (by omega))) rfl ?_);generalize hr20:Is_ (A5.get s.chans ((t.channel).toNat)) (⟨x.mail.id,t.queue⟩:LentR)=r;intro w19;have e21:=e14.trans (Aq_ hr20.symm);refine vq 14 (qaia (t.channel).toNat rfl rfl Tryz.underlying95 sz59 (by omega) (by omega)) rfl (by kernel_rfl) rfl fun w22=>?_;refine vtp 15 rfl (by kernel_rfl) (by kernel_rfl) (D1_ (sz:=7) (len:=5) (fun q=>SessR.pc (⟨s.place,s.rest,s.bad,s.begun,s.over,s.opens,(A5.set s.chans r q)⟩:SessR)) ((t.channel).toNat) 10 7 0 tv83 rfl rfl rfl rfl rfl rfl rfl rfl rfl (by omega) (bw5 rfl rfl rfl rfl rfl) rfl (bw5 rfl rfl rfl rfl rfl) rfl ?_);refine vD ?_;refine gx tv83 2 ?_;refine aN [3,4,6,7,8,9,10,11] 21 mixd ?_;refine gX tv83 [0,1,2,3,4,5,6,7,8,9,10,11,12,13,14,15,16,17,18] 2 ?_;refine vE 19 rfl (sA tv83 ?_);refine vT 20 rfl (sA tv83 ?_);refine vD ?_;refine gx tv83 2 ?_;subst e21;exact qr2
theorem I9_ (a:List TakerS) (b:List TakerS):Fn Tryz.prog gb 30 [.sl TakerS.pc a, .sl TakerS.pc b] (.bool (Eq_ a b)):=by
  refine fC Tryz.func30 tv83 Tryz.ntmps30 fun w N H hG=>?_;have a_l:a.length<=140737488355328:=w.1.1;have b_l:b.length<=140737488355328:=w.2.1.1;have e0:=Eq_.eq_1 a b;generalize Eq_ a b=z at e0 ⊢;refine gx tv83 15 ?_;refine cN e0 (fun p3 e4=>?_) (fun p6 e7=>?_)
  · refine gx tv83 7 ?_;subst e4;exact qr1
  refine gx tv83 11 ?_;refine loop (ι:=Nat) [0,1,12] [] (fun k=>[(13, .int .i64 (k:Int))]) (fun k=>[]) (fun k=>k<=a.length/\z=B8_ b (a.drop k) k) (fun k=>a.length-k) 0 ⟨rfl,trivial⟩ trivial ?_ ?_
  · exact⟨Nat.zero_le _,e7⟩
  rintro k ⟨hp8_1,hp8_2⟩;refine gx tv83 6 ?_;refine cn rfl (fun p10=>?_) fun p24=>?_
  · have e11:=C1_ (f:=fun zz=>B8_ b zz k) hp8_2 (Fr_ (by omega)) (B8_.eq_2 _ _ _ _);refine gx tv83 11 ?_;refine aN [0,1,2,3,4,5] 9 mixd ?_;refine gX tv83 [0,1] 7 ?_;have hc12:=getG (xs:=a) (k:=k) (by omega);refine vq 2 (qidx tv83 k rfl rfl rfl hc12 rfl rfl rfl rfl) rfl (by kernel_rfl) rfl fun w13=>?_;refine gX tv83 [3,4,5] 3 ?_;have hc14:=getG (xs:=b) (k:=k) (by omega);refine vq 6 (qidx tv83 k rfl rfl rfl hc14 rfl rfl rfl rfl) rfl (by kernel_rfl) rfl fun w15=>?_;refine gX tv83 [7] 1 ?_;refine vq 8 (sane rfl rfl eqg170 (veq170 (gt a k) (gt b k))) rfl (by kernel_rfl) rfl fun w16=>?_;refine vD ?_;refine gx tv83 1 ?_;refine cN e11 (fun p19 e20=>?_) (fun p22 e23=>?_)
    · refine gx tv83 11 ?_;subst e20;exact qr1
    refine gy tv83 7 ?_;refine next (k+1) rfl rfl ⟨rfl,trivial⟩ trivial ?_ ?_
    · (try simp only[]);omega
    exact⟨by (try simp only[]);omega,e23⟩
  have e25:=C1_ (f:=fun zz=>B8_ b zz k) hp8_2 (Gb_ (by omega)) (B8_.eq_1 _ _);refine gx tv83 11 ?_;subst e25;exact qr1
abbrev R20_:(Frame×Int×Int)->PV:=fun r=> .tup [.agg (Frame.pc r.1), .int .i64 r.2.1, .int .i64 r.2.2]
abbrev R21_:(SessR×Reply)->PV:=fun r=> .tup [.agg (SessR.pc r.1), .agg (Reply.pc r.2)]
abbrev R22_:(SessR×(List Reply)×(List DeedR))->PV:=fun r=> .tup [.agg (SessR.pc r.1), .sl Reply.pc r.2.1, .sl DeedR.pc r.2.2]
abbrev ty266:TI:=⟨.slc 269,1,24,[.sl Frame.pc []]⟩
def tbv84:Tb:=[(3,ty3),(4,ty4),(5,ty5),(9,ty9),(27,ty27),(55,ty55),(57,ty57),(59,ty59),(67,ty67),(97,ty97),(105,ty105),(167,ty167),(170,ty170),(171,ty171),(173,ty173),(177,ty177),(184,Y3_),(266,ty266),(269,ty269)]
theorem tv84:tbB Tryz.prog tbv84=true:=by kernel_rfl
theorem r08_All_ok (s:Bs) (hl:s.length<=4000000000:=by first|omega|(simp only[List.length_append];omega)):Fn Tryz.prog gb 162 [.str s] (.tup [.sl Frame.pc ((Hz_ s).1), .str ((Hz_ s).2.1), .int .i64 ((Hz_ s).2.2)]):=by
  refine fC Tryz.func162 tv84 Tryz.ntmps162 fun w N H hG=>?_;have e0:=Hz_.eq_1 s;generalize Hz_ s=z at e0 ⊢;refine gx tv84 13 ?_;refine sw_own (t:=5) (k:=3) (e:=269) 0 Frame.pc rfl rfl ?_;refine loop (ι:=Nat×Bs×(List Frame)×Value) [] [] (fun ⟨f,s1,out,u_out⟩=>[(0, .str s1),(5, .osl 0)]) (fun ⟨f,s1,out,u_out⟩=>[(0, .arr u_out 3 269 Frame.pc out)]) (fun ⟨f,s1,out,u_out⟩=>s1.length<f/\z=F0_ f s1 out/\s1.length+out.length<=s.length) (fun ⟨f,s1,out,u_out⟩=>f) ⟨(s.length+1),s,[],(.slice none 0 0)⟩ ⟨rfl,rfl,trivial⟩ ⟨rfl,trivial⟩ ?_ ?_
  · exact⟨Nat.lt_succ_self _,e0,(by simp)⟩
  rintro⟨f,s1,out,u_out⟩ ⟨hp1_1,hp1_2,hp1_3⟩;obtain⟨f1,rfl⟩:∃ q,f=q+1:=⟨f-1,by omega⟩;have e_f1:=hp1_2.trans (F0_.eq_2 _ _ _);refine gx tv84 4 ?_;refine cV e_f1 R20_ (Wi_ _) rfl fun r hr2 e4 w3=>?_;have hA4:=r7_ok s1
  (try rw[<- hr2] at hA4)
  refine gm tv84 17 [1] fun B7=>?_;refine cD e4 (fun p9 e10=>?_) (fun p11 e12=>?_)
  · refine gx tv84 9 ?_;refine givec 0 rfl ?_;refine gx tv84 5 ?_;subst e10;exact qr3
  refine gx tv84 9 ?_;refine cN e12 (fun p15 e16=>?_) (fun p18 e19=>?_)
  · refine gx tv84 9 ?_;refine givec 0 rfl ?_;refine gx tv84 5 ?_;subst e16;exact qr3
  refine gx tv84 6 ?_;refine ef (bsl 2 Frame.pc [r.1] tv84 rfl rfl rfl rfl rfl (fun _=>rfl) rfl (by decide) (by decide) rfl fun u20=>?_);refine ef (app tv84 [r.1] rfl rfl rfl rfl rfl rfl rfl rfl rfl (src_o rfl rfl) (by first|omega|(simp;omega)) rfl fun u21=>?_);refine gx tv84 6 ?_;refine q1 (sslo tv84 (r.2.1).toNat rfl rfl rfl rfl (by omega) (by omega)) rfl fun w22=>?_;refine gx tv84 3 ?_;refine next ⟨f1,(s1.drop (r.2.1).toNat),(out++[r.1]),(u21)⟩ rfl rfl ⟨rfl,rfl,trivial⟩ ⟨rfl,trivial⟩ ?_ ?_
  · (try simp only[]);omega
  exact⟨(by (try simp only[List.length_drop]);omega),e19,(by (try simp only[List.length_append,List.length_drop,List.length_cons,List.length_nil]);omega)⟩
theorem Rp_ (s:SessR) (m:Method) (tick:Int) (hs:QOk s 10000000:=by first|assumption|exact Fq_ (by assumption) (by omega)) (hm:m.channel<=4:=by omega):Fn Tryz.prog gb 170 [.agg (SessR.pc s), .agg (Method.pc m), .int .u64 tick] (.tup [.agg (SessR.pc ((Du_ s m tick).1)), .sl Reply.pc ((Du_ s m tick).2.1), .sl DeedR.pc ((Du_ s m tick).2.2)]):=by
  refine fC Tryz.func170 tv84 Tryz.ntmps170 fun w N H hG=>?_;have s_place_l:s.place.length<=9223372036854775807:=w.1.1;have s_rest_l:s.rest.length<=9223372036854775807:=w.1.2.1;have s_bad_r:-9223372036854775808<=s.bad/\s.bad<=9223372036854775807:=w.1.2.2.1;have m_channel_r:0<=m.channel/\m.channel<=255:=w.2.1.1;have m_kind_r:0<=m.kind/\m.kind<=255:=w.2.1.2.1;have m_name_l:m.name.length<=9223372036854775807:=w.2.1.2.2.1;have m_other_l:m.other.length<=9223372036854775807:=w.2.1.2.2.2.1;have m_key_l:m.key.length<=9223372036854775807:=w.2.1.2.2.2.2.1;have m_head_l:m.head.length<=140737488355328:=w.2.1.2.2.2.2.2.1.1;have m_body_l:m.body.length<=9223372036854775807:=w.2.1.2.2.2.2.2.2.1;have m_n_r:0<=m.n/\m.n<=18446744073709551615:=w.2.1.2.2.2.2.2.2.2.1;have m_m_r:0<=m.m/\m.m<=18446744073709551615:=w.2.1.2.2.2.2.2.2.2.2.1;have tick_r:0<=tick/\tick<=18446744073709551615:=w.2.2.1;have hch:COk (A5.get s.chans (m.channel).toNat) 10000000:=hs _ (by omega);obtain⟨hc1,hc2,hc3,hc4⟩:=id hch;obtain⟨hcd1,hcd2,hcd3⟩:=id hc4;have e0:=Du_.eq_1 s m tick;generalize Du_ s m tick=z at e0 ⊢;refine gm tv84 14 [0,1,2] fun B2=>?_;refine q1 (qaia (m.channel).toNat rfl rfl Tryz.underlying95 sz59 (by omega) (by omega)) rfl fun w5=>?_;refine ef (Iz_ (sz:=7) (len:=5) (fun q=>[.int .i64 ((A5.get s.chans q).credit), .sl L_.pc ((A5.get s.chans q).takers), .sl LentR.pc ((A5.get s.chans q).lent), .bool ((A5.get s.chans q).sure), .bool ((A5.get s.chans q).drafts), .int .u64 ((A5.get s.chans q).puts), .sl DeedR.pc ((A5.get s.chans q).held.l)]) ((m.channel).toNat) 10 7 0 tv84 rfl rfl rfl rfl rfl rfl rfl (by omega) (bw5 rfl rfl rfl rfl rfl) (bw5 rfl rfl rfl rfl rfl) rfl fun w6=>?_);refine gm tv84 12 [3] fun B8=>?_;refine cE e0 (fun h9 e11=>?_) (fun h9 e26=>?_)
  · have h10:=Br_ h9;refine gx tv84 1 ?_;refine aN [4,5,6,7,8,9] 10 mixd ?_;refine gX tv84 [0,1,2,7] 6 ?_;refine vE 3 rfl (eC (r27_Put_ok (A5.get s.chans ((m.channel).toNat))) rfl ?_);generalize hr13:I0_ (A5.get s.chans ((m.channel).toNat))=r;intro w12;have e14:=e11.trans (Aq_ hr13.symm);refine gX tv84 [4,5,6] 2 ?_;refine vq 8 (qaia (m.channel).toNat rfl rfl Tryz.underlying95 sz59 (by omega) (by omega)) rfl (by kernel_rfl) rfl fun w15=>?_;refine vtp 9 rfl (by kernel_rfl) (by kernel_rfl) (D1_ (sz:=7) (len:=5) (fun q=>SessR.pc (⟨s.place,s.rest,s.bad,s.begun,s.over,s.opens,(A5.set s.chans r.1 q)⟩:SessR)) ((m.channel).toNat) 10 7 0 tv84 rfl rfl rfl rfl rfl rfl rfl rfl rfl (by omega) (bw5 rfl rfl rfl rfl rfl) rfl (bw5 rfl rfl rfl rfl rfl) rfl ?_);refine vD ?_;refine gx tv84 2 ?_;refine Dv_ (ι:=Value) [6] [0,1,3] (fun u16=>[(7, .val (.slice none 0 0)),(8, .osl 4)]) (fun u16=>[(2, .box (B2 2) 97 (SessR.pc (⟨s.place,s.rest,s.bad,s.begun,s.over,s.opens,(A5.set s.chans r.1 ((m.channel).toNat))⟩:SessR))),(4, .arr u16 29 184 DeedR.pc [(Ib_ m tick (Gc_ tick m.m))])]) (fun u16=>PV.wf (.int .u64 (Gc_ tick m.m))/\PV.wf (.agg (DeedR.pc (Ib_ m tick (Gc_ tick m.m))))) ?_ ?_
    · refine aN [2,4,5,6,7,8,9,10,11] 12 mixd ?_;refine gX tv84 [0,1,2,3,4,5] 6 ?_;refine vC 6 rfl (Z3_ _ _) rfl fun w17=>?_;refine vE 7 rfl (eC (Ta_ m _ _) rfl fun w18=>?_);refine veL 8 [9] (by kernel_rfl) ⟨⟨_,rfl,?_⟩,⟨_,rfl,?_⟩,trivial⟩
      · refine ej rfl (bsl 4 DeedR.pc [(Ib_ m tick (Gc_ tick m.m))] tv84 rfl rfl rfl rfl rfl (fun _=>rfl) rfl (by decide) (by decide) rfl fun u19=>?_);refine vE 9 rfl (sA tv84 ?_);refine gX tv84 [10,11] 0 ?_;refine vD ?_;refine nX (u19) ?_ ⟨rfl,rfl,trivial⟩ ⟨rfl,rfl,trivial⟩;exact⟨w17,w18⟩
      refine ej rfl (sA tv84 ?_);refine gX tv84 [10] 2 ?_;refine vE 8 rfl (bsl 4 DeedR.pc [(Ib_ m tick (Gc_ tick m.m))] tv84 rfl rfl rfl rfl rfl (fun _=>rfl) rfl (by decide) (by decide) rfl fun u20=>?_);refine gX tv84 [11] 0 ?_;refine vD ?_;refine nX (u20) ?_ ⟨rfl,rfl,trivial⟩ ⟨rfl,rfl,trivial⟩;exact⟨w17,w18⟩
    generalize hr21:Ib_ m tick (Gc_ tick m.m)=r1;rintro u16 ⟨w22,w23⟩;have e24:=e14.trans (Aq_ hr21.symm);refine gx tv84 1 ?_;refine givec 4 rfl ?_;refine gx tv84 2 ?_;subst e24;exact rt3 rfl rfl (Ba_ (B_ (ple rfl) (B_ Ak_ (B_ (ple rfl) Ag_))))
  have h25:=Bf_ h9;refine gx tv84 3 ?_;refine aN [4,5,6,7,8,9] 12 mixd ?_;refine gX tv84 [0,1,2,3] 8 ?_;refine vE 4 rfl (eC (Ta_ m _ _) rfl ?_);generalize hr28:Ib_ m 0 m.m=r2;intro w27;have e29:=e26.trans (Aq_ hr28.symm);refine vE 5 rfl (bsl 4 DeedR.pc [r2] tv84 rfl rfl rfl rfl rfl (fun _=>rfl) rfl (by decide) (by decide) rfl fun u30=>?_);refine vE 6 rfl (Lf_ 4 rfl (Me_ (eC (Qh_ (A5.get s.chans ((m.channel).toNat)) _ (hx:=by first|omega|exact qok_hd (by assumption) (by omega) (by omega))) rfl ?_)));generalize hr32:G8_ (A5.get s.chans ((m.channel).toNat)) [r2]=r3;intro w31;have e33:=e29.trans (Aq_ hr32.symm);refine gX tv84 [7,8,9] 2 ?_;refine vtp 10 rfl (by kernel_rfl) (by kernel_rfl) (sA tv84 ?_);refine gX tv84 [11] 0 ?_;refine vD ?_;refine gx tv84 8 ?_;refine cN e33 (fun p36 e37=>?_) (fun p42 e43=>?_)
  · refine gx tv84 1 ?_;refine aN [2,4,5,6,7,8,9] 7 mixd ?_;refine gX tv84 [0,1,2] 4 ?_;refine vE 3 rfl (eC (D4_ m _) rfl ?_);generalize hr39:Bw_ m r3.2=r4;intro w38;have e40:=e37.trans (Aq_ hr39.symm);refine vE 4 rfl (sA tv84 ?_);refine gX tv84 [5,6] 0 ?_;refine vD ?_;refine gx tv84 3 ?_;subst e40;exact rt3 rfl rfl (Ba_ (B_ (ple rfl) (B_ (ple rfl) (B_ Ak_ Ag_))))
  refine gx tv84 8 ?_;refine q1 (qaia (m.channel).toNat rfl rfl Tryz.underlying95 sz59 (by omega) (by omega)) rfl fun w44=>?_;refine ef (D1_ (sz:=7) (len:=5) (fun q=>SessR.pc (⟨s.place,s.rest,s.bad,s.begun,s.over,s.opens,(A5.set s.chans r3.1 q)⟩:SessR)) ((m.channel).toNat) 10 7 0 tv84 rfl rfl rfl rfl rfl rfl rfl rfl rfl (by omega) (bw5 rfl rfl rfl rfl rfl) rfl (bw5 rfl rfl rfl rfl rfl) rfl ?_);refine gm tv84 11 [] fun _=>?_;subst e43;exact rt3 rfl rfl (Ba_ (B_ (ple rfl) (B_ Ak_ (B_ Ak_ Ag_))))
theorem Ns_ (s:SessR) (m:Method) (tick:Int) (hs:QOk s 10000000:=by first|assumption|exact Fq_ (by assumption) (by omega)) (hm:m.channel<=4:=by omega):Fn Tryz.prog gb 171 [.agg (SessR.pc s), .agg (Method.pc m), .int .u64 tick] (.tup [.agg (SessR.pc ((B6_ s m tick).1)), .sl Reply.pc ((B6_ s m tick).2.1), .sl DeedR.pc ((B6_ s m tick).2.2)]):=by
  refine fC Tryz.func171 tv84 Tryz.ntmps171 fun w N H hG=>?_;have s_place_l:s.place.length<=9223372036854775807:=w.1.1;have s_rest_l:s.rest.length<=9223372036854775807:=w.1.2.1;have s_bad_r:-9223372036854775808<=s.bad/\s.bad<=9223372036854775807:=w.1.2.2.1;have m_channel_r:0<=m.channel/\m.channel<=255:=w.2.1.1;have m_kind_r:0<=m.kind/\m.kind<=255:=w.2.1.2.1;have m_name_l:m.name.length<=9223372036854775807:=w.2.1.2.2.1;have m_other_l:m.other.length<=9223372036854775807:=w.2.1.2.2.2.1;have m_key_l:m.key.length<=9223372036854775807:=w.2.1.2.2.2.2.1;have m_head_l:m.head.length<=140737488355328:=w.2.1.2.2.2.2.2.1.1;have m_body_l:m.body.length<=9223372036854775807:=w.2.1.2.2.2.2.2.2.1;have m_n_r:0<=m.n/\m.n<=18446744073709551615:=w.2.1.2.2.2.2.2.2.2.1;have m_m_r:0<=m.m/\m.m<=18446744073709551615:=w.2.1.2.2.2.2.2.2.2.2.1;have tick_r:0<=tick/\tick<=18446744073709551615:=w.2.2.1;have hch:COk (A5.get s.chans (m.channel).toNat) 10000000:=hs _ (by omega);obtain⟨hc1,hc2,hc3,hc4⟩:=id hch;obtain⟨hcd1,hcd2,hcd3⟩:=id hc4;have e0:=B6_.eq_1 s m tick;generalize B6_ s m tick=z at e0 ⊢;refine gm tv84 14 [0,1,2] fun B2=>?_;refine q1 (qaia (m.channel).toNat rfl rfl Tryz.underlying95 sz59 (by omega) (by omega)) rfl fun w5=>?_;refine ef (Iz_ (sz:=7) (len:=5) (fun q=>[.int .i64 ((A5.get s.chans q).credit), .sl L_.pc ((A5.get s.chans q).takers), .sl LentR.pc ((A5.get s.chans q).lent), .bool ((A5.get s.chans q).sure), .bool ((A5.get s.chans q).drafts), .int .u64 ((A5.get s.chans q).puts), .sl DeedR.pc ((A5.get s.chans q).held.l)]) ((m.channel).toNat) 10 7 0 tv84 rfl rfl rfl rfl rfl rfl rfl (by omega) (bw5 rfl rfl rfl rfl rfl) (bw5 rfl rfl rfl rfl rfl) rfl fun w6=>?_);refine gm tv84 12 [3] fun B8=>?_;refine cD e0 (fun p10 e11=>?_) (fun p27 e28=>?_)
  · refine gx tv84 4 ?_;refine cV e11 R4_ (Yk_ _ _ (hx:=by first|omega|exact qok_hd (by assumption) (by omega) (by omega))) rfl fun r hr12 e14 w13=>?_;refine gy tv84 19 ?_;refine cE e14 (fun h15 e16=>?_) (fun h15 e25=>?_)
    · refine gx tv84 1 ?_;refine aN [2,4,5,6,7,8,9] 7 mixd ?_;refine gX tv84 [0,1,2] 4 ?_;refine vE 3 rfl (eC (D4_ m _) rfl ?_);generalize hr18:Bw_ m r.2=r1;intro w17;have e19:=e16.trans (Aq_ hr18.symm);refine vE 4 rfl (sA tv84 ?_);refine gX tv84 [5,6] 0 ?_;refine vD ?_;refine gx tv84 4 ?_;subst e19;exact rt3 rfl rfl (Ba_ (B_ (ple rfl) (B_ (ple rfl) (B_ Ak_ Ag_))))
    have h20:=orl h15;have h21:=Bf_ h20;have p22:=dt h21;have h23:=orr h15;have p24:=df h23;refine gm tv84 13 [] fun _=>?_;subst e25;exact rt3 rfl rfl (Ba_ (B_ (ple rfl) (B_ Ak_ (B_ (ple rfl) Ag_))))
  refine gx tv84 11 ?_;refine cV e28 R4_ (Ll_ _ _ _ _ (hn:=by first|omega|exact Wo_ (by assumption) (by omega) (by omega))) rfl fun r2 hr29 e31 w30=>?_;have hA31:=Xe_ (A5.get s.chans ((m.channel).toNat)) m.n m.m m.yes
  (try rw[<- hr29] at hA31)
  refine gx tv84 14 ?_;refine cN e31 (fun p35 e36=>?_) (fun p41 e42=>?_)
  · refine gx tv84 1 ?_;refine aN [2,4,5,6,7,8,9] 7 mixd ?_;refine gX tv84 [0,1,2] 4 ?_;refine vE 3 rfl (eC (D4_ m _) rfl ?_);generalize hr38:Bw_ m r2.2=r3;intro w37;have e39:=e36.trans (Aq_ hr38.symm);refine vE 4 rfl (sA tv84 ?_);refine gX tv84 [5,6] 0 ?_;refine vD ?_;refine gx tv84 3 ?_;subst e39;exact rt3 rfl rfl (Ba_ (B_ (ple rfl) (B_ (ple rfl) (B_ Ak_ Ag_))))
  refine gx tv84 9 ?_;refine cE e42 (fun h43 e44=>?_) (fun h43 e52=>?_)
  · refine gx tv84 1 ?_;refine aN [4,5,6,7,8,9] 12 mixd ?_;refine gX tv84 [0,1,2,3,8] 7 ?_;refine vE 4 rfl (eC (Qh_ (A5.get s.chans ((m.channel).toNat)) _ (hx:=by first|omega|exact qok_hd (by assumption) (by omega) (by omega))) rfl ?_);generalize hr46:G8_ (A5.get s.chans ((m.channel).toNat)) r2.1=r4;intro w45;have e47:=e44.trans (Aq_ hr46.symm);refine gX tv84 [5,6,7] 3 ?_;refine vq 9 (qaia (m.channel).toNat rfl rfl Tryz.underlying95 sz59 (by omega) (by omega)) rfl (by kernel_rfl) rfl fun w48=>?_;refine vtp 10 rfl (by kernel_rfl) (by kernel_rfl) (D1_ (sz:=7) (len:=5) (fun q=>SessR.pc (⟨s.place,s.rest,s.bad,s.begun,s.over,s.opens,(A5.set s.chans r4.1 q)⟩:SessR)) ((m.channel).toNat) 10 7 0 tv84 rfl rfl rfl rfl rfl rfl rfl rfl rfl (by omega) (bw5 rfl rfl rfl rfl rfl) rfl (bw5 rfl rfl rfl rfl rfl) rfl ?_);refine gX tv84 [11] 0 ?_;refine vD ?_;refine gx tv84 2 ?_;refine aN [2,4,5,6,7,8,9] 7 mixd ?_;refine gX tv84 [0,1,2] 4 ?_;refine vE 3 rfl (eC (D4_ m _) rfl ?_);generalize hr50:Bw_ m r4.2=r5;intro w49;have e51:=e47.trans (Aq_ hr50.symm);refine vE 4 rfl (sA tv84 ?_);refine gX tv84 [5,6] 0 ?_;refine vD ?_;refine gx tv84 3 ?_;subst e51;exact rt3 rfl rfl (Ba_ (B_ (ple rfl) (B_ (ple rfl) (B_ Ak_ Ag_))))
  refine gx tv84 3 ?_;refine aN [2,4,5,6,7,8,9] 7 mixd ?_;refine gX tv84 [0,1,2] 4 ?_;refine vE 3 rfl (eC (r28_At_ok _ _) rfl ?_);generalize hr54:Rc_ r2.1 tick=r6;intro w53;have e55:=e52.trans (Aq_ hr54.symm);refine vtp 4 rfl (by kernel_rfl) (by kernel_rfl) (sA tv84 ?_);refine gX tv84 [5,6] 0 ?_;refine vD ?_;refine gx tv84 2 ?_;subst e55;exact rt3 rfl rfl (Ba_ (B_ (ple rfl) (B_ Ak_ (B_ (ple rfl) Ag_))))
theorem Pu_ (s:SessR) (m:Method) (x:ItemR) (e:Int) (hs:QOk s 10000000:=by first|assumption|exact Fq_ (by assumption) (by omega)) (hm:m.channel<=4:=by omega):Fn Tryz.prog gb 129 [.agg (SessR.pc s), .agg (Method.pc m), .agg (ItemR.pc x), .int .i64 e] (.tup [.agg (SessR.pc ((D3_ s m x e).1)), .sl Reply.pc ((D3_ s m x e).2)]):=by
  refine fC Tryz.func129 tv84 Tryz.ntmps129 fun w N H hG=>?_;have s_place_l:s.place.length<=9223372036854775807:=w.1.1;have s_rest_l:s.rest.length<=9223372036854775807:=w.1.2.1;have s_bad_r:-9223372036854775808<=s.bad/\s.bad<=9223372036854775807:=w.1.2.2.1;have m_channel_r:0<=m.channel/\m.channel<=255:=w.2.1.1;have m_kind_r:0<=m.kind/\m.kind<=255:=w.2.1.2.1;have m_name_l:m.name.length<=9223372036854775807:=w.2.1.2.2.1;have m_other_l:m.other.length<=9223372036854775807:=w.2.1.2.2.2.1;have m_key_l:m.key.length<=9223372036854775807:=w.2.1.2.2.2.2.1;have m_head_l:m.head.length<=140737488355328:=w.2.1.2.2.2.2.2.1.1;have m_body_l:m.body.length<=9223372036854775807:=w.2.1.2.2.2.2.2.2.1;have m_n_r:0<=m.n/\m.n<=18446744073709551615:=w.2.1.2.2.2.2.2.2.2.1;have m_m_r:0<=m.m/\m.m<=18446744073709551615:=w.2.1.2.2.2.2.2.2.2.2.1;have x_mail_id_r:0<=x.mail.id/\x.mail.id<=18446744073709551615:=w.2.2.1.1;have x_mail_shop_l:x.mail.shop.length<=9223372036854775807:=w.2.2.1.2.1;have x_mail_key_l:x.mail.key.length<=9223372036854775807:=w.2.2.1.2.2.1;have x_mail_head_l:x.mail.head.length<=140737488355328:=w.2.2.1.2.2.2.1.1;have x_mail_body_l:x.mail.body.length<=9223372036854775807:=w.2.2.1.2.2.2.2.1;have x_mail_due_r:0<=x.mail.due/\x.mail.due<=18446744073709551615:=w.2.2.1.2.2.2.2.2.1;have x_mail_hops_r:0<=x.mail.hops/\x.mail.hops<=255:=w.2.2.1.2.2.2.2.2.2.1;have e_r:-9223372036854775808<=e/\e<=9223372036854775807:=w.2.2.2.1;have hch:COk (A5.get s.chans (m.channel).toNat) 10000000:=hs _ (by omega);obtain⟨hc1,hc2,hc3,hc4⟩:=id hch;obtain⟨hcd1,hcd2,hcd3⟩:=id hc4;have e0:=D3_.eq_1 s m x e;generalize D3_ s m x e=z at e0 ⊢;refine gm tv84 14 [0,1,2,3] fun B2=>?_;refine q1 (qaia (m.channel).toNat rfl rfl Tryz.underlying95 sz59 (by omega) (by omega)) rfl fun w6=>?_;refine ef (Iz_ (sz:=7) (len:=5) (fun q=>[.int .i64 ((A5.get s.chans q).credit), .sl L_.pc ((A5.get s.chans q).takers), .sl LentR.pc ((A5.get s.chans q).lent), .bool ((A5.get s.chans q).sure), .bool ((A5.get s.chans q).drafts), .int .u64 ((A5.get s.chans q).puts), .sl DeedR.pc ((A5.get s.chans q).held.l)]) ((m.channel).toNat) 10 7 0 tv84 rfl rfl rfl rfl rfl rfl rfl (by omega) (bw5 rfl rfl rfl rfl rfl) (bw5 rfl rfl rfl rfl rfl) rfl fun w7=>?_);refine gm tv84 5 [4] fun B9=>?_;obtain⟨o,e_o,q_o⟩:=Wg_ e0;refine Dv_ (ι:=SessR×ChanR) [3,4,5,8] [1,2,3] (fun ⟨x1,x2⟩=>[]) (fun ⟨x1,x2⟩=>[(0, .box (B2 0) 97 (SessR.pc x1)),(4, .box (B9 0) 59 (ChanR.pc x2))]) (fun ⟨x1,x2⟩=>o = .fin (x1,x2)) ?_ ?_
  · refine gx tv84 13 ?_;refine cD e_o (fun p11 e12=>?_) (fun p20 e21=>?_)
    · refine gx tv84 6 ?_;refine cD e12 (fun p14 e15=>?_) (fun p18 e19=>?_)
      · refine gx tv84 5 ?_;refine q1 (qaia (m.channel).toNat rfl rfl Tryz.underlying94 sz4 (by omega) (by omega)) rfl fun w16=>?_;refine ef (Pc_ (len:=5) (fun q=>SessR.pc (⟨s.place,s.rest,s.bad,s.begun,s.over,(A5.set s.opens false q),s.chans⟩:SessR)) ((m.channel).toNat) 5 1 0 tv84 rfl rfl rfl rfl rfl rfl rfl (by omega) (bw5 rfl rfl rfl rfl rfl) rfl (bw5 rfl rfl rfl rfl rfl) rfl ?_);refine gx tv84 7 ?_;refine q1 (qaia (m.channel).toNat rfl rfl Tryz.underlying95 sz59 (by omega) (by omega)) rfl fun w17=>?_;refine ef (D1_ (sz:=7) (len:=5) (fun q=>SessR.pc (⟨s.place,s.rest,s.bad,s.begun,s.over,(A5.set s.opens false ((m.channel).toNat)),(A5.set s.chans (⟨0,[],[],false,false,0,(⟨[]⟩:Ap_)⟩:ChanR) q)⟩:SessR)) ((m.channel).toNat) 10 7 0 tv84 rfl rfl rfl rfl rfl rfl rfl rfl rfl (by omega) (bw5 rfl rfl rfl rfl rfl) rfl (bw5 rfl rfl rfl rfl rfl) rfl ?_);refine gx tv84 2 ?_;refine nX ⟨(⟨s.place,s.rest,s.bad,s.begun,s.over,(A5.set s.opens false ((m.channel).toNat)),(A5.set s.chans (⟨0,[],[],false,false,0,(⟨[]⟩:Ap_)⟩:ChanR) ((m.channel).toNat))⟩:SessR),(A5.get s.chans ((m.channel).toNat))⟩ ?_ trivial ⟨rfl,rfl,trivial⟩;exact e15
      refine gx tv84 2 ?_;refine nX ⟨s,(A5.get s.chans ((m.channel).toNat))⟩ ?_ trivial ⟨rfl,rfl,trivial⟩;exact e19
    refine gx tv84 6 ?_;refine cD e21 (fun p23 e24=>?_) (fun p49 e50=>?_)
    · refine gy tv84 11 ?_;refine cE e24 (fun h25 e29=>?_) (fun h25 e34=>?_)
      · have h26:=bl h25;have h27:=br h25;have p28:=dt h27;refine gx tv84 1 ?_;refine aN [3,5,6,7,8,9,10] 7 mixd ?_;refine gX tv84 [0,1,2,3] 3 ?_;refine vE 4 rfl (eC (Jb_ m _ _ _) rfl ?_);generalize hr31:Gz_ m 5 ((A5.get s.chans ((m.channel).toNat)).puts) 0=r;intro w30;have e32:=e29.trans (Aq_ hr31.symm);refine vE 5 rfl (sA tv84 ?_);refine gX tv84 [6] 0 ?_;refine vD ?_;refine gx tv84 6 ?_;have e33:=Kx_ q_o e32;subst e33;exact qr2
      refine gx tv84 9 ?_;refine cE e34 (fun h35 e36=>?_) (fun h35 e41=>?_)
      · refine gx tv84 1 ?_;refine aN [3,5,6,7,8,9,10] 9 mixd ?_;refine gX tv84 [0,1,2,3,4,5] 3 ?_;refine vE 6 rfl (eC (Jb_ m _ _ _) rfl ?_);generalize hr38:Gz_ m 6 ((A5.get s.chans ((m.channel).toNat)).puts) (IntKind.wrap .u64 e)=r1;intro w37;have e39:=e36.trans (Aq_ hr38.symm);refine vE 7 rfl (sA tv84 ?_);refine gX tv84 [8] 0 ?_;refine vD ?_;refine gx tv84 6 ?_;have e40:=Kx_ q_o e39;subst e40;exact qr2
      refine gx tv84 8 ?_;refine cD e41 (fun p43 e44=>?_) (fun p47 e48=>?_)
      · refine gm tv84 11 [] fun _=>?_;have e46:=Kx_ q_o e44;subst e46;exact rt2 rfl rfl (Ba_ (B_ (ple rfl) (B_ Ak_ Ag_)))
      refine gx tv84 2 ?_;refine nX ⟨s,(A5.get s.chans ((m.channel).toNat))⟩ ?_ trivial ⟨rfl,rfl,trivial⟩;exact e48
    refine gx tv84 6 ?_;refine cD e50 (fun p52 e53=>?_) (fun p78 e79=>?_)
    · refine gx tv84 7 ?_;refine cD e53 (fun p55 e56=>?_) (fun p61 e62=>?_)
      · refine gx tv84 1 ?_;refine aN [3,5,6,7,8,9,10] 5 mixd ?_;refine gX tv84 [0,1] 3 ?_;refine vE 2 rfl (eC (Jb_ m _ _ _) rfl ?_);generalize hr58:Gz_ m 4 0 0=r2;intro w57;have e59:=e56.trans (Aq_ hr58.symm);refine vE 3 rfl (sA tv84 ?_);refine gX tv84 [4] 0 ?_;refine vD ?_;refine gx tv84 6 ?_;have e60:=Kx_ q_o e59;subst e60;exact qr2
      refine gx tv84 8 ?_;refine cD e62 (fun p64 e65=>?_) (fun p76 e77=>?_)
      · refine gx tv84 9 ?_;refine cV e65 R21_ (Ra_ _ (⟨m.channel,256,m.name⟩:TakerS) _) rfl fun r3 hr66 e68 w67=>?_;refine gm tv84 10 [5,6] fun B70=>?_;refine Dv_ (ι:=Value) [8] [0,1,2,4,5,6] (fun u72=>[(9, .osl 7)]) (fun u72=>[(3, .box (B2 3) 97 (SessR.pc r3.1)),(7, .arr u72 13 167 Reply.pc [r3.2])]) (fun u72=>True) ?_ ?_
        · refine aN [3,7,8,9,10,11,12,13,14] 5 mixd ?_;refine gX tv84 [0,1] 3 ?_;refine veL 2 [3] (by kernel_rfl) ⟨⟨_,rfl,?_⟩,⟨_,rfl,?_⟩,trivial⟩
          · refine ej rfl (bsl 7 Reply.pc [r3.2] tv84 rfl rfl rfl rfl rfl (fun _=>rfl) rfl (by decide) (by decide) rfl fun u73=>?_);refine vE 3 rfl (sA tv84 ?_);refine gX tv84 [4] 0 ?_;refine vD ?_;refine nX (u73) ?_ ⟨rfl,trivial⟩ ⟨rfl,rfl,trivial⟩;exact trivial
          refine ej rfl (sA tv84 ?_);refine vE 2 rfl (bsl 7 Reply.pc [r3.2] tv84 rfl rfl rfl rfl rfl (fun _=>rfl) rfl (by decide) (by decide) rfl fun u74=>?_);refine gX tv84 [4] 0 ?_;refine vD ?_;refine nX (u74) ?_ ⟨rfl,trivial⟩ ⟨rfl,rfl,trivial⟩;exact trivial
        rintro u72 _;refine gx tv84 1 ?_;refine givec 7 rfl ?_;refine gx tv84 4 ?_;have e75:=Kx_ q_o e68;subst e75;exact qr2
      refine gx tv84 2 ?_;refine nX ⟨s,(A5.get s.chans ((m.channel).toNat))⟩ ?_ trivial ⟨rfl,rfl,trivial⟩;exact e77
    refine gx tv84 6 ?_;refine cD e79 (fun p81 e82=>?_) (fun p96 e97=>?_)
    · refine gx tv84 9 ?_;refine cV e82 R4_ (Ll_ _ _ _ _ (hn:=by first|omega|exact Wo_ (by assumption) (by omega) (by omega))) rfl fun r4 hr83 e85 w84=>?_;have hA85:=Xe_ (A5.get s.chans ((m.channel).toNat)) m.n m.m m.yes
      (try rw[<- hr83] at hA85)
      refine gx tv84 13 ?_;refine cD e85 (fun p88 e89=>?_) (fun p94 e95=>?_)
      · refine aN [5,6,7,8,9,10] 8 mixd ?_;refine gX tv84 [0,1,2,3,5] 3 ?_;refine vE 4 rfl (eC (Qn_ (A5.get s.chans ((m.channel).toNat)) _ (hn:=by first|omega|exact Wo_ (by assumption) (by omega) (by omega))) rfl ?_);generalize hr91:Ir_ (A5.get s.chans ((m.channel).toNat)) r4.1=r5;intro w90;have e92:=e89.trans (Aq_ hr91.symm);refine vq 6 (qaia (m.channel).toNat rfl rfl Tryz.underlying95 sz59 (by omega) (by omega)) rfl (by kernel_rfl) rfl fun w93=>?_;refine vtp 7 rfl (by kernel_rfl) (by kernel_rfl) (D1_ (sz:=7) (len:=5) (fun q=>SessR.pc (⟨s.place,s.rest,s.bad,s.begun,s.over,s.opens,(A5.set s.chans r5 q)⟩:SessR)) ((m.channel).toNat) 10 7 0 tv84 rfl rfl rfl rfl rfl rfl rfl rfl rfl (by omega) (bw5 rfl rfl rfl rfl rfl) rfl (bw5 rfl rfl rfl rfl rfl) rfl ?_);refine vD ?_;refine gx tv84 1 ?_;refine nX ⟨(⟨s.place,s.rest,s.bad,s.begun,s.over,s.opens,(A5.set s.chans r5 ((m.channel).toNat))⟩:SessR),(A5.get s.chans ((m.channel).toNat))⟩ ?_ trivial ⟨rfl,rfl,trivial⟩;exact e92
      refine gx tv84 2 ?_;refine nX ⟨s,(A5.get s.chans ((m.channel).toNat))⟩ ?_ trivial ⟨rfl,rfl,trivial⟩;exact e95
    refine gx tv84 6 ?_;refine cD e97 (fun p99 e100=>?_) (fun p116 e117=>?_)
    · refine gx tv84 1 ?_;obtain⟨o1,e_o1,q_o1⟩:=Cc_ e100;refine Dv_ (ι:=ChanR) [3,4,5,8,9,10] [0,1,2,3] (fun x3=>[]) (fun x3=>[(4, .box (B9 0) 59 (ChanR.pc x3))]) (fun x3=>o1=x3) ?_ ?_
      · refine gx tv84 6 ?_;refine cD e_o1 (fun p102 e103=>?_) (fun p108 e109=>?_)
        · refine gx tv84 4 ?_;refine cV e103 R13_ (Qn_ _ _ (hn:=by first|omega|exact Wo_ (by assumption) (by omega) (by omega))) rfl fun r6 hr104 e106 w105=>?_;refine gm tv84 2 [] fun _=>?_;refine nX r6 ?_ trivial ⟨rfl,trivial⟩;exact e106
        refine gx tv84 1 ?_;refine nX (A5.get s.chans ((m.channel).toNat)) ?_ trivial ⟨rfl,trivial⟩;exact e109
      rintro x3 hp110;have e111:=D5_ q_o1 hp110;refine gx tv84 1 ?_;refine aN [5,6,7,8,9,10] 10 mixd ?_;refine gX tv84 [0,1,2,7] 6 ?_;refine vE 3 rfl (eC (Q4_ x3) rfl ?_);generalize hr113:Il_ x3=r7;intro w112;have e114:=e111.trans (Aq_ hr113.symm);refine gX tv84 [4,5,6] 2 ?_;refine vq 8 (qaia (m.channel).toNat rfl rfl Tryz.underlying95 sz59 (by omega) (by omega)) rfl (by kernel_rfl) rfl fun w115=>?_;refine vtp 9 rfl (by kernel_rfl) (by kernel_rfl) (D1_ (sz:=7) (len:=5) (fun q=>SessR.pc (⟨s.place,s.rest,s.bad,s.begun,s.over,s.opens,(A5.set s.chans r7.1 q)⟩:SessR)) ((m.channel).toNat) 10 7 0 tv84 rfl rfl rfl rfl rfl rfl rfl rfl rfl (by omega) (bw5 rfl rfl rfl rfl rfl) rfl (bw5 rfl rfl rfl rfl rfl) rfl ?_);refine vD ?_;refine gx tv84 1 ?_;refine nX ⟨(⟨s.place,s.rest,s.bad,s.begun,s.over,s.opens,(A5.set s.chans r7.1 ((m.channel).toNat))⟩:SessR),x3⟩ ?_ trivial ⟨rfl,rfl,trivial⟩;exact e114
    refine gx tv84 2 ?_;refine nX ⟨s,(A5.get s.chans ((m.channel).toNat))⟩ ?_ trivial ⟨rfl,rfl,trivial⟩;exact e117
  rintro⟨x1,x2⟩ hp118;have e119:=lp2_fin q_o hp118;refine gx tv84 2 ?_;refine aN [3,5,6,7,8,9,10] 6 mixd ?_;refine gX tv84 [0,1,2] 3 ?_;refine vE 3 rfl (eC (D4_ m _) rfl ?_);generalize hr121:Bw_ m e=r8;intro w120;have e122:=e119.trans (Aq_ hr121.symm);refine vE 4 rfl (sA tv84 ?_);refine gX tv84 [5] 0 ?_;refine vD ?_;refine gx tv84 2 ?_;subst e122;exact qr2
theorem Yc_ (s:SessR) (m:Method) (tick:Int) (hs:QOk s 10000000:=by first|assumption|exact Fq_ (by assumption) (by omega)):Fn Tryz.prog gb 127 [.agg (SessR.pc s), .agg (Method.pc m), .int .u64 tick] (.tup [.agg (SessR.pc ((E4_ s m tick).1)), .sl Reply.pc ((E4_ s m tick).2.1), .sl DeedR.pc ((E4_ s m tick).2.2.1), .int .i64 ((E4_ s m tick).2.2.2)]):=by
  refine fC Tryz.func127 tv84 Tryz.ntmps127 fun w N H hG=>?_;have s_place_l:s.place.length<=9223372036854775807:=w.1.1;have s_rest_l:s.rest.length<=9223372036854775807:=w.1.2.1;have s_bad_r:-9223372036854775808<=s.bad/\s.bad<=9223372036854775807:=w.1.2.2.1;have m_channel_r:0<=m.channel/\m.channel<=255:=w.2.1.1;have m_kind_r:0<=m.kind/\m.kind<=255:=w.2.1.2.1;have m_name_l:m.name.length<=9223372036854775807:=w.2.1.2.2.1;have m_other_l:m.other.length<=9223372036854775807:=w.2.1.2.2.2.1;have m_key_l:m.key.length<=9223372036854775807:=w.2.1.2.2.2.2.1;have m_head_l:m.head.length<=140737488355328:=w.2.1.2.2.2.2.2.1.1;have m_body_l:m.body.length<=9223372036854775807:=w.2.1.2.2.2.2.2.2.1;have m_n_r:0<=m.n/\m.n<=18446744073709551615:=w.2.1.2.2.2.2.2.2.2.1;have m_m_r:0<=m.m/\m.m<=18446744073709551615:=w.2.1.2.2.2.2.2.2.2.2.1;have tick_r:0<=tick/\tick<=18446744073709551615:=w.2.2.1;have e0:=E4_.eq_1 s m tick;generalize E4_ s m tick=z at e0 ⊢;refine gm tv84 14 [0,1,2] fun B2=>?_;refine cV e0 R0_ (r28_May_ok _ _) rfl fun r hr5 e7 w6=>?_;have hA7:=rmay_ch s m
  (try rw[<- hr5] at hA7)
  refine gx tv84 10 ?_;refine cN e7 (fun p11 e12=>?_) (fun p15 e16=>?_)
  · refine gm tv84 12 [] fun _=>?_;subst e12;exact rt4 rfl rfl (Ba_ (B_ (ple rfl) (B_ Ak_ (B_ Ak_ (B_ (ple rfl) Ag_)))))
  refine gx tv84 10 ?_;refine cD e16 (fun p18 e19=>?_) (fun p24 e25=>?_)
  · refine gm tv84 7 [] fun _=>?_;refine Dv_ (ι:=Value) [6] [0,1] (fun u21=>[(7, .osl 3),(8, .val (.slice none 0 0)),(9, .int .i64 0)]) (fun u21=>[(2, .box (B2 2) 97 (SessR.pc (⟨s.place,s.rest,s.bad,true,s.over,s.opens,s.chans⟩:SessR))),(3, .arr u21 13 167 Reply.pc [(⟨0,0,0,0,false,s.place,(⟨0,[],[],[],[],0,0⟩:Mail)⟩:Reply)])]) (fun u21=>True) ?_ ?_
    · refine aN [2,3,4,5,6,7,8,9,10] 9 mixd ?_;refine gX tv84 [0,1,2,3] 5 ?_;refine veL 4 [5] (by kernel_rfl) ⟨⟨_,rfl,?_⟩,⟨_,rfl,?_⟩,trivial⟩
      · refine ej rfl (bsl 3 Reply.pc [(⟨0,0,0,0,false,s.place,(⟨0,[],[],[],[],0,0⟩:Mail)⟩:Reply)] tv84 rfl rfl rfl rfl rfl (fun _=>rfl) rfl (by decide) (by decide) rfl fun u22=>?_);refine vE 5 rfl (sA tv84 ?_);refine gX tv84 [6,7,8] 0 ?_;refine vD ?_;refine nX (u22) ?_ ⟨rfl,rfl,rfl,trivial⟩ ⟨rfl,rfl,trivial⟩;exact trivial
      refine ej rfl (sA tv84 ?_);refine vE 4 rfl (bsl 3 Reply.pc [(⟨0,0,0,0,false,s.place,(⟨0,[],[],[],[],0,0⟩:Mail)⟩:Reply)] tv84 rfl rfl rfl rfl rfl (fun _=>rfl) rfl (by decide) (by decide) rfl fun u23=>?_);refine gX tv84 [6,7,8] 0 ?_;refine vD ?_;refine nX (u23) ?_ ⟨rfl,rfl,rfl,trivial⟩ ⟨rfl,rfl,trivial⟩;exact trivial
    rintro u21 _;refine gx tv84 1 ?_;refine givec 3 rfl ?_;refine gx tv84 2 ?_;subst e19;exact rt4 rfl rfl (Ba_ (B_ (ple rfl) (B_ (ple rfl) (B_ Ak_ (B_ (ple rfl) Ag_)))))
  refine gx tv84 10 ?_;refine cD e25 (fun p27 e28=>?_) (fun p38 e39=>?_)
  · refine gx tv84 5 ?_;refine q1 (qaia (m.channel).toNat rfl rfl Tryz.underlying94 sz4 (by omega) (by omega)) rfl fun w29=>?_;refine ef (Pc_ (len:=5) (fun q=>SessR.pc (⟨s.place,s.rest,s.bad,s.begun,s.over,(A5.set s.opens true q),s.chans⟩:SessR)) ((m.channel).toNat) 5 1 0 tv84 rfl rfl rfl rfl rfl rfl rfl (by omega) (bw5 rfl rfl rfl rfl rfl) rfl (bw5 rfl rfl rfl rfl rfl) rfl ?_);refine gx tv84 3 ?_;refine aN [3,4,5,6,7,8] 6 mixd ?_;refine gX tv84 [0,1,3] 3 ?_;refine vE 2 rfl (eC r27_New_ok rfl ?_);generalize hr31:Kr_=r1;intro w30;have e32:=e28.trans (Aq_ hr31.symm);have hr31:=hr31.symm;have hA32:=cok_new' 0
    (try rw[<- hr31] at hA32)
    refine vq 4 (qaia (m.channel).toNat rfl rfl Tryz.underlying95 sz59 (by omega) (by omega)) rfl (by kernel_rfl) rfl fun w34=>?_;refine vtp 5 rfl (by kernel_rfl) (by kernel_rfl) (D1_ (sz:=7) (len:=5) (fun q=>SessR.pc (⟨s.place,s.rest,s.bad,s.begun,s.over,(A5.set s.opens true ((m.channel).toNat)),(A5.set s.chans r1 q)⟩:SessR)) ((m.channel).toNat) 10 7 0 tv84 rfl rfl rfl rfl rfl rfl rfl rfl rfl (by omega) (bw5 rfl rfl rfl rfl rfl) rfl (bw5 rfl rfl rfl rfl rfl) rfl ?_);refine vD ?_;refine gx tv84 2 ?_;refine aN [2,3,4,5,6,7,8] 7 mixd ?_;refine gX tv84 [0,1] 5 ?_;refine vE 2 rfl (eC (D4_ m _) rfl ?_);generalize hr36:Bw_ m 0=r2;intro w35;have e37:=e32.trans (Aq_ hr36.symm);refine vE 3 rfl (sA tv84 ?_);refine gX tv84 [4,5,6] 0 ?_;refine vD ?_;refine gx tv84 3 ?_;subst e37;exact rt4 rfl rfl (Ba_ (B_ (ple rfl) (B_ (ple rfl) (B_ Ak_ (B_ (ple rfl) Ag_)))))
  refine gx tv84 7 ?_;refine q1 (qaia (m.channel).toNat rfl rfl Tryz.underlying95 sz59 (by omega) (by omega)) rfl fun w40=>?_;refine ef (Iz_ (sz:=7) (len:=5) (fun q=>[.int .i64 ((A5.get s.chans q).credit), .sl L_.pc ((A5.get s.chans q).takers), .sl LentR.pc ((A5.get s.chans q).lent), .bool ((A5.get s.chans q).sure), .bool ((A5.get s.chans q).drafts), .int .u64 ((A5.get s.chans q).puts), .sl DeedR.pc ((A5.get s.chans q).held.l)]) ((m.channel).toNat) 10 7 0 tv84 rfl rfl rfl rfl rfl rfl rfl (by omega) (bw5 rfl rfl rfl rfl rfl) (bw5 rfl rfl rfl rfl rfl) rfl fun w41=>?_);refine gm tv84 5 [3] fun B43=>?_;obtain⟨o,e_o,q_o⟩:=Ni_ e39;refine Dv_ (ι:=Unit) [3,4,6,11] [0,1,2,3] (fun _=>[]) (fun _=>[]) (fun _=>o = .fin ()) ?_ ?_
  · refine gx tv84 13 ?_;refine cD e_o (fun p45 e46=>?_) (fun p65 e66=>?_)
    · refine gx tv84 4 ?_;refine cV e46 R5_ (P4_ _ _) rfl fun r3 hr47 e49 w48=>?_;have hA49:=Wd_ (A5.get s.chans ((m.channel).toNat)) tick
      (try rw[<- hr47] at hA49)
      (try have hA50:=cok_ln (c:=(A5.get s.chans ((m.channel).toNat))) (n:=10000000) (by first|assumption|exact P3_ (by assumption) (by omega) (by omega));(try rw[<- hr47] at hA50))
      refine gx tv84 11 ?_;refine cD e49 (fun p53 e54=>?_) (fun p57 e58=>?_)
      · refine gm tv84 15 [] fun _=>?_;have e56:=Ez_ q_o e54;subst e56;exact rt4 rfl rfl (Ba_ (B_ (ple rfl) (B_ Ak_ (B_ (ple rfl) (B_ (ple rfl) Ag_)))))
      refine gx tv84 7 ?_;refine q1 (qaia (m.channel).toNat rfl rfl Tryz.underlying94 sz4 (by omega) (by omega)) rfl fun w59=>?_;refine ef (Pc_ (len:=5) (fun q=>SessR.pc (⟨s.place,s.rest,s.bad,s.begun,s.over,(A5.set s.opens false q),s.chans⟩:SessR)) ((m.channel).toNat) 5 1 0 tv84 rfl rfl rfl rfl rfl rfl rfl (by omega) (bw5 rfl rfl rfl rfl rfl) rfl (bw5 rfl rfl rfl rfl rfl) rfl ?_);refine gx tv84 8 ?_;refine q1 (qaia (m.channel).toNat rfl rfl Tryz.underlying95 sz59 (by omega) (by omega)) rfl fun w60=>?_;refine ef (D1_ (sz:=7) (len:=5) (fun q=>SessR.pc (⟨s.place,s.rest,s.bad,s.begun,s.over,(A5.set s.opens false ((m.channel).toNat)),(A5.set s.chans (⟨0,[],[],false,false,0,(⟨[]⟩:Ap_)⟩:ChanR) q)⟩:SessR)) ((m.channel).toNat) 10 7 0 tv84 rfl rfl rfl rfl rfl rfl rfl rfl rfl (by omega) (bw5 rfl rfl rfl rfl rfl) rfl (bw5 rfl rfl rfl rfl rfl) rfl ?_);refine gx tv84 3 ?_;refine aN [2,4,5,6,7,8,9] 7 mixd ?_;refine gX tv84 [0,1] 5 ?_;refine vE 2 rfl (eC (D4_ m _) rfl ?_);generalize hr62:Bw_ m 0=r4;intro w61;have e63:=e58.trans (Aq_ hr62.symm);refine vE 3 rfl (sA tv84 ?_);refine gX tv84 [4,5,6] 0 ?_;refine vD ?_;refine gx tv84 5 ?_;have e64:=Ez_ q_o e63;subst e64;exact rt4 rfl rfl (Ba_ (B_ (ple rfl) (B_ (ple rfl) (B_ Ak_ (B_ (ple rfl) Ag_)))))
    refine gx tv84 1 ?_;obtain⟨o1,e_o1,q_o1⟩:=Cc_ e66;refine Dv_ (ι:=Bool) [2,3,4,6,7,8,9,11,56] [0,1,2,3] (fun v=>[(79, .bool v)]) (fun v=>[]) (fun v=>o1=v) ?_ ?_
    · refine gx tv84 6 ?_;refine cD e_o1 (fun p68 e69=>?_) (fun p70 e71=>?_)
      · refine gx tv84 1 ?_;refine nX (decide (m.kind=3)) ?_ ⟨rfl,trivial⟩ trivial;exact e69
      refine gx tv84 6 ?_;refine cD e71 (fun p73 e74=>?_) (fun p75 e76=>?_)
      · refine gx tv84 1 ?_;refine nX (decide (m.kind=4)) ?_ ⟨rfl,trivial⟩ trivial;exact e74
      refine gx tv84 6 ?_;refine cD e76 (fun p78 e79=>?_) (fun p80 e81=>?_)
      · refine gx tv84 1 ?_;refine nX (decide (m.kind=5)) ?_ ⟨rfl,trivial⟩ trivial;exact e79
      refine gx tv84 6 ?_;refine cD e81 (fun p83 e84=>?_) (fun p85 e86=>?_)
      · refine gx tv84 1 ?_;refine nX (decide (m.kind=6)) ?_ ⟨rfl,trivial⟩ trivial;exact e84
      refine gx tv84 6 ?_;refine cD e86 (fun p88 e89=>?_) (fun p90 e91=>?_)
      · refine gx tv84 1 ?_;refine nX (decide (m.kind=7)) ?_ ⟨rfl,trivial⟩ trivial;exact e89
      refine gx tv84 6 ?_;refine cD e91 (fun p93 e94=>?_) (fun p95 e96=>?_)
      · refine gx tv84 1 ?_;refine nX (decide (m.kind=8)) ?_ ⟨rfl,trivial⟩ trivial;exact e94
      refine gx tv84 6 ?_;refine cD e96 (fun p98 e99=>?_) (fun p100 e101=>?_)
      · refine gx tv84 1 ?_;refine nX (decide (m.kind=9)) ?_ ⟨rfl,trivial⟩ trivial;exact e99
      refine gx tv84 4 ?_;refine nX (decide (m.kind=10)) ?_ ⟨rfl,trivial⟩ trivial;exact e101
    rintro v hp102;have e103:=D5_ q_o1 hp102;refine gx tv84 1 ?_;refine cE e103 (fun h104 e105=>?_) (fun h104 e110=>?_)
    · refine gx tv84 1 ?_;refine aN [2,4,5,6,7,8,9] 8 mixd ?_;refine gX tv84 [0,1,2] 5 ?_;refine vE 3 rfl (eC (Vt_ m _) rfl ?_);generalize hr107:Hc_ m tick=r5;intro w106;have e108:=e105.trans (Aq_ hr107.symm);refine vE 4 rfl (sA tv84 ?_);refine gX tv84 [5,6,7] 0 ?_;refine vD ?_;refine gx tv84 5 ?_;have e109:=Ez_ q_o e108;subst e109;exact rt4 rfl rfl (Ba_ (B_ (ple rfl) (B_ Ak_ (B_ (ple rfl) (B_ (ple rfl) Ag_)))))
    refine gx tv84 6 ?_;refine cD e110 (fun p112 e113=>?_) (fun p120 e121=>?_)
    · refine gx tv84 5 ?_;refine cV e113 R22_ (Rp_ _ _ _) rfl fun r6 hr114 e116 w115=>?_;refine gm tv84 25 [4] fun B118=>?_;have e119:=Ez_ q_o e116;subst e119;exact qr4
    refine gx tv84 6 ?_;refine cD e121 (fun p123 e124=>?_) (fun p141 e142=>?_)
    · refine gx tv84 4 ?_;refine cV e124 R0_ (Rf_ _ (hc:=by first|omega|exact qok_cr (by assumption) (by omega))) rfl fun r7 hr125 e127 w126=>?_;refine gx tv84 3 ?_;refine cD e127 (fun p129 e130=>?_) (fun p135 e136=>?_)
      · refine gx tv84 1 ?_;refine aN [2,4,5,6,7,8,9] 7 mixd ?_;refine gX tv84 [0,1] 5 ?_;refine vE 2 rfl (eC (D4_ m _) rfl ?_);generalize hr132:Bw_ m 12=r8;intro w131;have e133:=e130.trans (Aq_ hr132.symm);refine vE 3 rfl (sA tv84 ?_);refine gX tv84 [4,5,6] 0 ?_;refine vD ?_;refine gx tv84 6 ?_;have e134:=Ez_ q_o e133;subst e134;exact rt4 rfl rfl (Ba_ (B_ (ple rfl) (B_ (ple rfl) (B_ Ak_ (B_ (ple rfl) Ag_)))))
      refine gx tv84 3 ?_;refine Dv_ (ι:=Value) [6] [0,1,3] (fun u137=>[(7, .val (.slice none 0 0)),(8, .osl 4),(9, .int .i64 0)]) (fun u137=>[(2, .box (B2 2) 97 (SessR.pc s)),(4, .arr u137 29 184 DeedR.pc [(⟨7,tick,(⟨[],0,[]⟩:ShopR),(⟨[],0,0,[]⟩:Aa_),(⟨[],[],false,[],[],false⟩:BindR),m.name,0,0,0,0,0,(⟨0,[],[],[],[],0,0⟩:Mail),[]⟩:DeedR)])]) (fun u137=>True) ?_ ?_
      · refine aN [2,4,5,6,7,8,9,10,11] 10 mixd ?_;refine gX tv84 [0,1,2,3,4] 5 ?_;refine veL 5 [6] (by kernel_rfl) ⟨⟨_,rfl,?_⟩,⟨_,rfl,?_⟩,trivial⟩
        · refine ej rfl (bsl 4 DeedR.pc [(⟨7,tick,(⟨[],0,[]⟩:ShopR),(⟨[],0,0,[]⟩:Aa_),(⟨[],[],false,[],[],false⟩:BindR),m.name,0,0,0,0,0,(⟨0,[],[],[],[],0,0⟩:Mail),[]⟩:DeedR)] tv84 rfl rfl rfl rfl rfl (fun _=>rfl) rfl (by decide) (by decide) rfl fun u138=>?_);refine vE 6 rfl (sA tv84 ?_);refine gX tv84 [7,8,9] 0 ?_;refine vD ?_;refine nX (u138) ?_ ⟨rfl,rfl,rfl,trivial⟩ ⟨rfl,rfl,trivial⟩;exact trivial
        refine ej rfl (sA tv84 ?_);refine gX tv84 [7] 3 ?_;refine vE 5 rfl (bsl 4 DeedR.pc [(⟨7,tick,(⟨[],0,[]⟩:ShopR),(⟨[],0,0,[]⟩:Aa_),(⟨[],[],false,[],[],false⟩:BindR),m.name,0,0,0,0,0,(⟨0,[],[],[],[],0,0⟩:Mail),[]⟩:DeedR)] tv84 rfl rfl rfl rfl rfl (fun _=>rfl) rfl (by decide) (by decide) rfl fun u139=>?_);refine gX tv84 [8,9] 0 ?_;refine vD ?_;refine nX (u139) ?_ ⟨rfl,rfl,rfl,trivial⟩ ⟨rfl,rfl,trivial⟩;exact trivial
      rintro u137 _;refine gx tv84 1 ?_;refine givec 4 rfl ?_;refine gx tv84 4 ?_;have e140:=Ez_ q_o e136;subst e140;exact rt4 rfl rfl (Ba_ (B_ (ple rfl) (B_ Ak_ (B_ (ple rfl) (B_ (ple rfl) Ag_)))))
    refine gx tv84 1 ?_;obtain⟨o2,e_o2,q_o2⟩:=Cc_ e142;refine Dv_ (ι:=Bool) [2,3,4,6,7,8,9,11] [0,1,2,3] (fun v1=>[(119, .bool v1)]) (fun v1=>[]) (fun v1=>o2=v1) ?_ ?_
    · refine gx tv84 6 ?_;refine cD e_o2 (fun p144 e145=>?_) (fun p146 e147=>?_)
      · refine gx tv84 1 ?_;refine nX (decide (m.kind=16)) ?_ ⟨rfl,trivial⟩ trivial;exact e145
      refine gx tv84 4 ?_;refine nX (decide (m.kind=19)) ?_ ⟨rfl,trivial⟩ trivial;exact e147
    rintro v1 hp148;have e149:=D5_ q_o2 hp148;refine gx tv84 1 ?_;refine cE e149 (fun h150 e151=>?_) (fun h150 e158=>?_)
    · refine gx tv84 5 ?_;refine cV e151 R22_ (Ns_ _ _ _) rfl fun r9 hr152 e154 w153=>?_;refine gm tv84 25 [4] fun B156=>?_;have e157:=Ez_ q_o e154;subst e157;exact qr4
    refine gx tv84 2 ?_;refine nX () ?_ trivial trivial;exact e158
  rintro _ hp159;have e160:=Tn_ q_o hp159;refine gx tv84 2 ?_;refine aN [4,5,6,7,8,9] 12 mixd ?_;refine gX tv84 [0,1,2,3,8] 7 ?_;refine vE 4 rfl (eC (r28_own_ok (A5.get s.chans ((m.channel).toNat)) m) rfl ?_);generalize hr162:H0_ (A5.get s.chans ((m.channel).toNat)) m=r10;intro w161;have e163:=e160.trans (Aq_ hr162.symm);refine gX tv84 [5,6,7] 3 ?_;refine vq 9 (qaia (m.channel).toNat rfl rfl Tryz.underlying95 sz59 (by omega) (by omega)) rfl (by kernel_rfl) rfl fun w164=>?_;refine vtp 10 rfl (by kernel_rfl) (by kernel_rfl) (D1_ (sz:=7) (len:=5) (fun q=>SessR.pc (⟨s.place,s.rest,s.bad,s.begun,s.over,s.opens,(A5.set s.chans r10.1 q)⟩:SessR)) ((m.channel).toNat) 10 7 0 tv84 rfl rfl rfl rfl rfl rfl rfl rfl rfl (by omega) (bw5 rfl rfl rfl rfl rfl) rfl (bw5 rfl rfl rfl rfl rfl) rfl ?_);refine gX tv84 [11] 0 ?_;refine vD ?_;refine gx tv84 2 ?_;refine aN [2,4,5,6,7,8,9] 8 mixd ?_;refine gX tv84 [0,1,2] 5 ?_;refine vE 3 rfl (eC (D4_ m _) rfl ?_);generalize hr166:Bw_ m r10.2=r11;intro w165;have e167:=e163.trans (Aq_ hr166.symm);refine vE 4 rfl (sA tv84 ?_);refine gX tv84 [5,6,7] 0 ?_;refine vD ?_;refine gx tv84 2 ?_;subst e167;exact rt4 rfl rfl (Ba_ (B_ (ple rfl) (B_ (ple rfl) (B_ Ak_ (B_ (ple rfl) Ag_)))))
theorem My_ (s:SessR) (hs:QOk s 10000000:=by first|assumption|exact Fq_ (by assumption) (by omega)):Fn Tryz.prog gb 32 [.agg (SessR.pc s)] (.sl TakerS.pc (Gi_ s)):=by
  refine fC Tryz.func32 tv84 Tryz.ntmps32 fun w N H hG=>?_;have e0:=Gi_.eq_1 s;refine gm tv84 18 [0] fun B2=>?_;refine sw_own (t:=3) (k:=3) (e:=170) 1 TakerS.pc rfl rfl ?_;refine loop (ι:=Nat×(List TakerS)×Nat×Value) [1,2] [0] (fun ⟨f,out,k,u_out⟩=>[(3, .osl 1),(4, .int .i64 (k:Int))]) (fun ⟨f,out,k,u_out⟩=>[(1, .arr u_out 3 170 TakerS.pc out)]) (fun ⟨f,out,k,u_out⟩=>5-k<f/\Gi_ s=Ek_ s f out k/\out.length<=4*k/\1<=k/\k<=5) (fun ⟨f,out,k,u_out⟩=>f) ⟨(5-1+1),[],1,(.slice none 0 0)⟩ ⟨rfl,rfl,trivial⟩ ⟨rfl,trivial⟩ ?_ ?_
  · exact⟨Nat.lt_succ_self _,e0,⟨by simp,by omega,by omega⟩⟩
  rintro⟨f,out,k,u_out⟩ ⟨hp3_1,hp3_2,hp3_3⟩;obtain⟨f1,rfl⟩:∃ q,f=q+1:=⟨f-1,by omega⟩;have e_f1:=hp3_2.trans (Ek_.eq_2 _ _ _ _);refine gx tv84 7 ?_;refine cD e_f1 (fun p5 e6=>?_) (fun p32 e33=>?_)
  · refine gx tv84 3 ?_;obtain⟨o,e_o,q_o⟩:=Cc_ e6;refine Dv_ (ι:=(List TakerS)×Value) [1,2,4] [0] (fun ⟨out1,u_out1⟩=>[(3, .osl 1)]) (fun ⟨out1,u_out1⟩=>[(1, .arr u_out1 3 170 TakerS.pc out1)]) (fun ⟨out1,u_out1⟩=>o=out1/\out1.length<=4*k+4) ?_ ?_
    · refine gx tv84 6 ?_;refine q1 (qaia k rfl rfl Tryz.underlying94 sz4 rfl (by omega)) rfl fun w7=>?_;refine ef (P0_ (len:=5) (fun q=> .bool (A5.get s.opens q)) k 5 1 0 tv84 rfl rfl rfl rfl rfl rfl (by omega) (bw5 rfl rfl rfl rfl rfl) rfl fun w8=>?_);refine gx tv84 4 ?_;refine q1g [17,18] rfl (fun hc=>qaia k rfl rfl Tryz.underlying95 sz59 rfl (by first|omega|(simp only[gOf,bl2] at *;omega))) ⟨(fun hc=>hc),(fun hc=>hc),trivial⟩ rfl rfl rfl fun _=>?_;refine q1gL [19] rfl (fun hc=>lySA (sz:=7) (len:=5) (fun q=>[.int .i64 ((A5.get s.chans q).credit), .sl L_.pc ((A5.get s.chans q).takers), .sl LentR.pc ((A5.get s.chans q).lent), .bool ((A5.get s.chans q).sure), .bool ((A5.get s.chans q).drafts), .int .u64 ((A5.get s.chans q).puts), .sl DeedR.pc ((A5.get s.chans q).held.l)]) k 10 7 0 tv84 rfl rfl rfl rfl rfl rfl rfl (by first|omega|(simp only[gOf,bl2] at *;omega)) (bw5 rfl rfl rfl rfl rfl) (bw5 rfl rfl rfl rfl rfl)) ⟨(fun hc=>hc),trivial⟩ rfl rfl fun _=>?_;refine callg rfl (fun hc=>(Rf_ _ (hc:=by first|omega|exact qok_cr (by assumption) (by omega)))) rfl ⟨(fun hc=>hc),trivial⟩ rfl rfl fun _=>?_;refine gy tv84 4 ?_;refine cE e_o (fun h9 e10=>?_) (fun h9 e15=>?_)
      · refine gx tv84 3 ?_;refine nX ⟨out,(u_out)⟩ ?_ ⟨rfl,trivial⟩ ⟨rfl,trivial⟩;exact⟨e10,(by (try simp only[]);omega)⟩
      have h11:=orl h9;have h12:=Bf_ h11;have h13:=orr h9;have p14:=df h13;refine gx tv84 6 ?_;refine q1 (qaia k rfl rfl Tryz.underlying95 sz59 rfl (by omega)) rfl fun w16=>?_;refine gx tv84 1 ?_;refine ef (P0_ (len:=5) (fun q=> .sl L_.pc ((A5.get s.chans q).takers)) k 10 7 1 tv84 rfl rfl rfl rfl rfl rfl (by omega) (bw5 rfl rfl rfl rfl rfl) rfl fun w17=>?_);refine gx tv84 5 ?_;refine loop (ι:=Nat×(List TakerS)×Nat×Value) [1,2,4,28,29] [0] (fun ⟨f2,out2,v,u_out2⟩=>[(3, .osl 1),(30, .int .i64 (v:Int))]) (fun ⟨f2,out2,v,u_out2⟩=>[(1, .arr u_out2 3 170 TakerS.pc out2)]) (fun ⟨f2,out2,v,u_out2⟩=>(((A5.get s.chans k).takers).length)-v<f2/\o=Fy_ s k f2 out2 v/\out2.length<=v+out.length/\v<=(A5.get s.chans k).takers.length) (fun ⟨f2,out2,v,u_out2⟩=>f2) ⟨((((A5.get s.chans k).takers).length)-0+1),out,0,(u_out)⟩ ⟨rfl,rfl,trivial⟩ ⟨rfl,trivial⟩ ?_ ?_
      · exact⟨Nat.lt_succ_self _,e15,⟨by omega,by omega⟩⟩
      rintro⟨f2,out2,v,u_out2⟩ ⟨hp18_1,hp18_2,hp18_3⟩;have hq:=qok_tk (k:=k) (m:=4) hs (by omega) (by omega);obtain⟨f3,rfl⟩:∃ q,f2=q+1:=⟨f2-1,by omega⟩;have e_f3:=hp18_2.trans (Fy_.eq_2 _ _ _ _ _);refine gx tv84 6 ?_;refine cD e_f3 (fun p20 e21=>?_) (fun p28 e29=>?_)
      · have hc22:=getG (xs:=(A5.get s.chans k).takers) (k:=v) (by omega);refine gx tv84 6 ?_;refine q1 (qidx tv84 v rfl rfl rfl hc22 rfl rfl rfl rfl) rfl fun w23=>?_;refine gm tv84 14 [2] fun B25=>?_;refine ef (bsl 3 TakerS.pc [(⟨(IntKind.wrap .u8 (k:Int)),(gt ((A5.get s.chans k).takers) v).tag,(gt ((A5.get s.chans k).takers) v).queue⟩:TakerS)] tv84 rfl rfl rfl rfl rfl (fun _=>rfl) rfl (by decide) (by decide) rfl fun u26=>?_);refine ef (app tv84 [(⟨(IntKind.wrap .u8 (k:Int)),(gt ((A5.get s.chans k).takers) v).tag,(gt ((A5.get s.chans k).takers) v).queue⟩:TakerS)] rfl rfl rfl rfl rfl rfl rfl rfl rfl (src_o rfl rfl) (by first|omega|(simp;omega)) rfl fun u27=>?_);refine gy tv84 8 ?_;refine next ⟨f3,(out2++[(⟨(IntKind.wrap .u8 (k:Int)),(gt ((A5.get s.chans k).takers) v).tag,(gt ((A5.get s.chans k).takers) v).queue⟩:TakerS)]),(v+1),(u27)⟩ rfl rfl ⟨rfl,rfl,trivial⟩ ⟨rfl,trivial⟩ ?_ ?_
        · (try simp only[]);omega
        exact⟨by (try simp only[]);omega,e21,⟨by (try simp only[List.length_append,List.length_cons,List.length_nil]);omega,by omega⟩⟩
      refine gx tv84 5 ?_;refine nX ⟨out2,(u_out2)⟩ ?_ ⟨rfl,trivial⟩ ⟨rfl,trivial⟩;exact⟨e29,(by (try simp only[]);omega)⟩
    rintro⟨out1,u_out1⟩ ⟨hp30,hp30_3⟩;have e31:=D5_ q_o hp30;refine gy tv84 6 ?_;refine next ⟨f1,out1,(k+1),(u_out1)⟩ rfl rfl ⟨rfl,rfl,trivial⟩ ⟨rfl,trivial⟩ ?_ ?_
    · (try simp only[]);omega
    exact⟨by (try simp only[]);omega,e31,⟨by omega,by omega,by omega⟩⟩
  refine gx tv84 11 ?_;refine givec 1 rfl ?_;refine gx tv84 1 ?_;exact rt1 rfl rfl (Au_ (fun r:(List TakerS)=> .sl TakerS.pc r) e33 (ple rfl))
theorem Si_ (s:SessR) (tick:Int) (hs:QOk s 10000000:=by first|assumption|exact Fq_ (by assumption) (by omega)):Fn Tryz.prog gb 33 [.agg (SessR.pc s), .int .u64 tick] (.tup [.agg (SessR.pc ((Ix_ s tick).1)), .sl DeedR.pc ((Ix_ s tick).2)]):=by
  refine fC Tryz.func33 tv84 Tryz.ntmps33 fun w N H hG=>?_;have e0:=Ix_.eq_1 s tick;refine gm tv84 19 [0,1] fun B2=>?_;refine sw_own (t:=6) (k:=29) (e:=184) 2 DeedR.pc rfl rfl ?_;refine loop (ι:=Nat×(List DeedR)×Nat×SessR×Value) [1,2,4,5] [1] (fun ⟨f,out,k,x,u_out⟩=>[(6, .osl 2),(7, .int .i64 (k:Int))]) (fun ⟨f,out,k,x,u_out⟩=>[(2, .arr u_out 29 184 DeedR.pc out),(0, .box (B2 0) 97 (SessR.pc x))]) (fun ⟨f,out,k,x,u_out⟩=>5-k<f/\Ix_ s tick=Ev_ tick f out k x/\out.length<=10000000*k/\1<=k/\k<=5/\QOk x 10000000) (fun ⟨f,out,k,x,u_out⟩=>f) ⟨(5-1+1),[],1,s,(.slice none 0 0)⟩ ⟨rfl,rfl,trivial⟩ ⟨rfl,rfl,trivial⟩ ?_ ?_
  · exact⟨Nat.lt_succ_self _,e0,⟨by simp,by omega,by omega,by assumption⟩⟩
  rintro⟨f,out,k,x,u_out⟩ ⟨hp4_1,hp4_2,hp4_3⟩;obtain⟨hk1,hk0,hk2,hk3⟩:=hp4_3;obtain⟨f1,rfl⟩:∃ q,f=q+1:=⟨f-1,by omega⟩;have e_f1:=hp4_2.trans (Ev_.eq_2 _ _ _ _ _);refine gx tv84 7 ?_;refine cD e_f1 (fun p6 e7=>?_) (fun p25 e26=>?_)
  · refine gx tv84 5 ?_;obtain⟨o,e_o,q_o⟩:=Cc_ e7;refine Dv_ (ι:=(List DeedR)×Value) [1,2,4,5,7] [0,1] (fun ⟨out1,u_out1⟩=>[(6, .osl 2)]) (fun ⟨out1,u_out1⟩=>[(2, .arr u_out1 29 184 DeedR.pc out1)]) (fun ⟨out1,u_out1⟩=>o=out1/\out1.length<=10000000*k+10000000) ?_ ?_
    · refine gx tv84 4 ?_;refine q1 (qaia k rfl rfl Tryz.underlying94 sz4 rfl (by omega)) rfl fun w8=>?_;refine ef (P0_ (len:=5) (fun q=> .bool (A5.get x.opens q)) k 5 1 0 tv84 rfl rfl rfl rfl rfl rfl (by omega) (bw5 rfl rfl rfl rfl rfl) rfl fun w9=>?_);refine gx tv84 2 ?_;refine cE e_o (fun h10 e11=>?_) (fun h10 e20=>?_)
      · refine gx tv84 4 ?_;refine q1 (qaia k rfl rfl Tryz.underlying95 sz59 rfl (by omega)) rfl fun w12=>?_;refine ef (Iz_ (sz:=7) (len:=5) (fun q=>[.int .i64 ((A5.get x.chans q).credit), .sl L_.pc ((A5.get x.chans q).takers), .sl LentR.pc ((A5.get x.chans q).lent), .bool ((A5.get x.chans q).sure), .bool ((A5.get x.chans q).drafts), .int .u64 ((A5.get x.chans q).puts), .sl DeedR.pc ((A5.get x.chans q).held.l)]) k 10 7 0 tv84 rfl rfl rfl rfl rfl rfl rfl (by omega) (bw5 rfl rfl rfl rfl rfl) (bw5 rfl rfl rfl rfl rfl) rfl fun w13=>?_);refine gx tv84 1 ?_;refine cV e11 R5_ (P4_ _ _) rfl fun r hr14 e16 w15=>?_;have hA16:=Wd_ (A5.get x.chans k) tick
        (try rw[<- hr14] at hA16)
        (try have hA17:=cok_ln (c:=(A5.get x.chans k)) (n:=10000000) (by first|assumption|exact P3_ (by assumption) (by omega) (by omega));(try rw[<- hr14] at hA17))
        refine ef (app tv84 r rfl rfl rfl rfl rfl rfl rfl rfl rfl (src_l rfl (fun _=>rfl)) (by first|omega|(simp;omega)) rfl fun u19=>?_);refine gx tv84 2 ?_;refine nX ⟨(out++r),(u19)⟩ ?_ ⟨rfl,trivial⟩ ⟨rfl,trivial⟩;exact⟨e16,(by first|omega|(simp only[List.length_append];omega))⟩
      refine gx tv84 1 ?_;refine nX ⟨out,(u_out)⟩ ?_ ⟨rfl,trivial⟩ ⟨rfl,trivial⟩;exact⟨e20,(by first|omega|(simp only[List.length_append];omega))⟩
    rintro⟨out1,u_out1⟩ ⟨hp21,hp21_3⟩;have e22:=D5_ q_o hp21;refine gx tv84 5 ?_;refine q1 (qaia k rfl rfl Tryz.underlying94 sz4 rfl (by omega)) rfl fun w23=>?_;refine ef (Pc_ (len:=5) (fun q=>SessR.pc (⟨x.place,x.rest,x.bad,x.begun,x.over,(A5.set x.opens false q),x.chans⟩:SessR)) k 5 1 0 tv84 rfl rfl rfl rfl rfl rfl rfl (by omega) (bw5 rfl rfl rfl rfl rfl) rfl (bw5 rfl rfl rfl rfl rfl) rfl ?_);refine gx tv84 6 ?_;refine q1 (qaia k rfl rfl Tryz.underlying95 sz59 rfl (by omega)) rfl fun w24=>?_;refine ef (D1_ (sz:=7) (len:=5) (fun q=>SessR.pc (⟨x.place,x.rest,x.bad,x.begun,x.over,(A5.set x.opens false k),(A5.set x.chans (⟨0,[],[],false,false,0,(⟨[]⟩:Ap_)⟩:ChanR) q)⟩:SessR)) k 10 7 0 tv84 rfl rfl rfl rfl rfl rfl rfl rfl rfl (by omega) (bw5 rfl rfl rfl rfl rfl) rfl (bw5 rfl rfl rfl rfl rfl) rfl ?_);refine gy tv84 8 ?_;refine next ⟨f1,out1,(k+1),(⟨x.place,x.rest,x.bad,x.begun,x.over,(A5.set x.opens false k),(A5.set x.chans (⟨0,[],[],false,false,0,(⟨[]⟩:Ap_)⟩:ChanR) k)⟩:SessR),(u_out1)⟩ rfl rfl ⟨rfl,rfl,trivial⟩ ⟨rfl,rfl,trivial⟩ ?_ ?_
    · (try simp only[]);omega
    exact⟨by (try simp only[]);omega,e22,⟨by first|omega|(simp only[List.length_append];omega),by omega,by omega,Hk_ (by assumption) (by omega) (Fa_ _)⟩⟩
  refine gm tv84 19 [] fun _=>?_;refine givec 2 rfl ?_;refine gx tv84 1 ?_;exact rt2 rfl rfl (Au_ (fun r:SessR×(List DeedR)=> .tup [.agg (SessR.pc r.1), .sl DeedR.pc r.2]) e26 (ple rfl))
abbrev R23_:((List Frame)×Bs×Int)->PV:=fun r=> .tup [.sl Frame.pc r.1, .str r.2.1, .int .i64 r.2.2]
abbrev R24_:(A_×(List Reply)×(List DeedR)×Int)->PV:=fun r=> .tup [.agg (A_.pc r.1), .sl Reply.pc r.2.1, .sl DeedR.pc r.2.2.1, .int .i64 r.2.2.2]
theorem fl232_0:Fld Tryz.prog 232 0 0:=fun b o w=>by kernel_rfl
abbrev ty221:TI:=⟨.slc 67,1,24,[.sl Method.pc []]⟩
def tbv85:Tb:=[(3,ty3),(4,ty4),(5,ty5),(9,ty9),(27,ty27),(28,ty28),(64,ty64),(67,ty67),(75,ty75),(77,ty77),(82,ty82),(97,ty97),(99,ty99),(101,ty101),(105,ty105),(137,Uw_),(153,ty153),(170,ty170),(221,ty221),(230,ty230),(232,ty232),(266,ty266),(269,ty269)]
theorem tv85:tbB Tryz.prog tbv85=true:=by kernel_rfl
theorem Zm_ (s:SessR) (chunk:Bs) (hf:s.rest.length+chunk.length<=4000000000:=by omega):Fn Tryz.prog gb 122 [.agg (SessR.pc s), .str chunk] (.tup [.agg (SessR.pc ((Fp_ s chunk).1)), .sl Method.pc ((Fp_ s chunk).2.1), .int .i64 ((Fp_ s chunk).2.2)]):=by
  refine fC Tryz.func122 tv85 Tryz.ntmps122 fun w N H hG=>?_;have hrl:(s.rest++chunk).length=s.rest.length+chunk.length:=List.length_append;have e0:=Fp_.eq_1 s chunk;generalize Fp_ s chunk=z at e0 ⊢;refine gm tv85 15 [0,1] fun B2=>?_;refine cE e0 (fun h4 e5=>?_) (fun h4 e7=>?_)
  · refine gm tv85 10 [] fun _=>?_;subst e5;exact rt3 rfl rfl (Ba_ (B_ (ple rfl) (B_ Ak_ (B_ (ple rfl) Ag_))))
  refine gx tv85 10 ?_;refine cN e7 (fun p10 e11=>?_) (fun p13 e14=>?_)
  · refine gx tv85 1 ?_;refine aN [1,2,3,4,5,6,7] 6 mixd ?_;refine gX tv85 [0,1,2] 3 ?_;refine vE 3 rfl (sA tv85 ?_);refine gX tv85 [4,5] 0 ?_;refine vD ?_;refine gx tv85 3 ?_;subst e11;exact rt3 rfl rfl (Ba_ (B_ (ple rfl) (B_ Ak_ (B_ (ple rfl) Ag_))))
  refine go tv85 8 rfl rfl ⟨(by first|omega|(simp<;>omega)),trivial⟩ ?_;refine cV e14 R23_ (r08_All_ok _) rfl fun r hr15 e17 w16=>?_;have hA17:=r8_len (s.rest++chunk)
  (try rw[<- hr15] at hA17)
  refine gm tv85 37 [] fun _=>?_;refine sw_own (t:=10) (k:=10) (e:=67) 2 Method.pc rfl rfl ?_;refine loop (ι:=Nat×(List Method)×Value) [2,4,9,37,38] [0,1] (fun ⟨k,out,u_out⟩=>[(39, .int .i64 (k:Int)),(10, .osl 2)]) (fun ⟨k,out,u_out⟩=>[(2, .arr u_out 10 67 Method.pc out)]) (fun ⟨k,out,u_out⟩=>k<=r.1.length/\z=Ea_ s r (r.1.drop k) out/\out.length<=k) (fun ⟨k,out,u_out⟩=>r.1.length-k) ⟨0,[],(.slice none 0 0)⟩ ⟨rfl,rfl,trivial⟩ ⟨rfl,trivial⟩ ?_ ?_
  · exact⟨Nat.zero_le _,e17,(by first|omega|(simp;done)|(simp;omega))⟩
  rintro⟨k,out,u_out⟩ ⟨hp20_1,hp20_2,hp20_3⟩;refine gx tv85 6 ?_;refine cn rfl (fun p22=>?_) fun p43=>?_
  · have e23:=C1_ (f:=fun zz=>Ea_ s r zz out) hp20_2 (Fr_ (by omega)) (Ea_.eq_2 _ _ _ _ _);have hc24:=getG (xs:=r.1) (k:=k) (by omega);refine gx tv85 6 ?_;refine q1 (qidx tv85 k rfl rfl rfl hc24 rfl rfl rfl rfl) rfl fun w25=>?_;refine gm tv85 8 [3] fun B27=>?_;refine cV e23 R19_ (X3_ _) rfl fun r1 hr28 e30 w29=>?_;refine gm tv85 15 [4] fun B32=>?_;refine cN e30 (fun p35 e36=>?_) (fun p39 e40=>?_)
    · refine gm tv85 10 [] fun _=>?_;refine givec 2 rfl ?_;refine gx tv85 7 ?_;subst e36;exact qr3
    refine gx tv85 5 ?_;refine ef (bsl 5 Method.pc [r1.1] tv85 rfl rfl rfl rfl rfl (fun _=>rfl) rfl (by decide) (by decide) rfl fun u41=>?_);refine ef (app tv85 [r1.1] rfl rfl rfl rfl rfl rfl rfl rfl rfl (src_o rfl rfl) (by first|omega|(simp;omega)) rfl fun u42=>?_);refine gy tv85 8 ?_;refine next ⟨(k+1),(out++[r1.1]),(u42)⟩ rfl rfl ⟨rfl,rfl,trivial⟩ ⟨rfl,trivial⟩ ?_ ?_
    · (try simp only[]);omega
    exact⟨by (try simp only[]);omega,e40,(by (try simp only[List.length_append,List.length_cons,List.length_nil]);omega)⟩
  have e44:=C1_ (f:=fun zz=>Ea_ s r zz out) hp20_2 (Gb_ (by omega)) (Ea_.eq_1 _ _ _);refine gm tv85 15 [] fun _=>?_;refine givec 2 rfl ?_;refine gx tv85 1 ?_;subst e44;exact qr3
theorem Vo_:Fn Tryz.prog gb 15 [] (.bool (Nh_)):=by
  refine fC Tryz.func15 tv85 Tryz.ntmps15 fun w N H hG=>?_;have e0:=Nh_.eq_1;refine gx tv85 7 ?_;refine cV e0 R15_ (Lk_ _) rfl fun r hr1 e3 w2=>?_;have hA3:=snew_ok [108,111,119] 0
  (try rw[<- hr1] at hA3)
  have hA4:=Xf_ [108,111,119]
  (try rw[<- hr1] at hA4)
  refine gx tv85 1 ?_;refine cV e3 R24_ (Fe_ _ (⟨0,0,[],[],[],[],[],1,0,false⟩:Method) _) rfl fun r1 hr6 e8 w7=>?_
  (try have hA8:=Uo_ (m:=(⟨0,0,[],[],[],[],[],1,0,false⟩:Method)) (t:=0) (show SOk r _ by assumption) (by first|omega|simp);(try rw[<- hr6] at hA8);obtain⟨hA8_0,⟨hA8_1,hA8_2⟩,hA8_3,hA8_4⟩:=hA8)
  refine gm tv85 16 [0] fun B11=>?_;refine cV e8 R24_ (Fe_ _ (⟨0,0,[],[],[],[],[],1,0,false⟩:Method) _) rfl fun r2 hr12 e14 w13=>?_
  (try have hA14:=Uo_ (m:=(⟨0,0,[],[],[],[],[],1,0,false⟩:Method)) (t:=0) (show SOk r1.1 _ by assumption) (by first|omega|simp);(try rw[<- hr12] at hA14);obtain⟨hA14_0,⟨hA14_1,hA14_2⟩,hA14_3,hA14_4⟩:=hA14)
  refine gm tv85 14 [1] fun B17=>?_;refine call Om_ rfl rfl fun w18=>?_;refine gx tv85 1 ?_;refine callg rfl (fun hc=>Va_) rfl trivial rfl rfl fun _=>?_;refine gy tv85 2 ?_;refine callg rfl (fun hc=>Xh_) rfl trivial rfl rfl fun _=>?_;refine gy tv85 2 ?_;refine callg rfl (fun hc=>l27_Awake) rfl trivial rfl rfl fun _=>?_;refine gy tv85 12 ?_;refine q1g [45] rfl (fun hc=>qidx tv85 0 rfl rfl rfl (getG (by first|omega|(simp only[gOf,bl2] at *;omega))) rfl rfl rfl rfl) ⟨(fun hc=>hc),trivial⟩ rfl rfl rfl fun _=>?_;refine gy tv85 12 ?_;exact rt1 rfl rfl (Au_ (fun r:Bool=> .bool r) e14 (ple rfl))
theorem Mj_ (l:List TakerS) (hl:l.length<=1000000:=by omega):Fn Tryz.prog gb 31 [.sl TakerS.pc l] (.sl TakerS.pc (Gg_ l)):=by
  refine fC Tryz.func31 tv85 Tryz.ntmps31 fun w N H hG=>?_;have e0:=Gg_.eq_1 l;refine gx tv85 19 ?_;refine sw_own (t:=3) (k:=3) (e:=170) 0 TakerS.pc rfl rfl ?_;refine loop (ι:=Nat×(List TakerS)×Value) [2,6,7] [] (fun ⟨k,out,u_out⟩=>[(8, .int .i64 (k:Int)),(3, .osl 0)]) (fun ⟨k,out,u_out⟩=>[(0, .arr u_out 3 170 TakerS.pc out)]) (fun ⟨k,out,u_out⟩=>k<=l.length/\Gg_ l=Dn_ (l.drop k) out/\out.length<=k) (fun ⟨k,out,u_out⟩=>l.length-k) ⟨0,[],(.slice none 0 0)⟩ ⟨rfl,rfl,trivial⟩ ⟨rfl,trivial⟩ ?_ ?_
  · exact⟨Nat.zero_le _,e0,(by first|omega|(simp;done)|(simp;omega))⟩
  rintro⟨k,out,u_out⟩ ⟨hp1_1,hp1_2,hp1_3⟩;refine gx tv85 6 ?_;refine cn rfl (fun p3=>?_) fun p11=>?_
  · have e4:=C1_ (f:=fun zz=>Dn_ zz out) hp1_2 (Fr_ (by omega)) (Dn_.eq_2 _ _ _);have hc5:=getG (xs:=l) (k:=k) (by omega);refine gx tv85 6 ?_;refine q1 (qidx tv85 k rfl rfl rfl hc5 rfl rfl rfl rfl) rfl fun w6=>?_;refine gm tv85 8 [1] fun B8=>?_;refine ef (bsl 2 TakerS.pc [(gt l k)] tv85 rfl rfl rfl rfl rfl (fun _=>rfl) rfl (by decide) (by decide) rfl fun u9=>?_);refine ef (app tv85 [(gt l k)] rfl rfl rfl rfl rfl rfl rfl rfl rfl (src_o rfl rfl) (by first|omega|(simp;omega)) rfl fun u10=>?_);refine gy tv85 8 ?_;refine next ⟨(k+1),(out++[(gt l k)]),(u10)⟩ rfl rfl ⟨rfl,rfl,trivial⟩ ⟨rfl,trivial⟩ ?_ ?_
    · (try simp only[]);omega
    exact⟨by (try simp only[]);omega,e4,(by (try simp only[List.length_append,List.length_cons,List.length_nil]);omega)⟩
  have e12:=C1_ (f:=fun zz=>Dn_ zz out) hp1_2 (Gb_ (by omega)) (Dn_.eq_1 _);refine gx tv85 11 ?_;refine givec 0 rfl ?_;refine gx tv85 1 ?_;exact rt1 rfl rfl (Au_ (fun r:(List TakerS)=> .sl TakerS.pc r) e12 (ple rfl))
theorem Sp_ (s:A_) (q:SessR) (m:Method) (a:Act28R) (hs:SOk s 9000000:=by first|assumption|exact Ff_ (by assumption) (by omega)) (hq:QOk q 9000000:=by first|assumption|exact Fq_ (by assumption) (by omega)) (hm:m.head.length<=1000000:=by omega) (hi:a.item.mail.head.length<=1000000:=by omega):Fn Tryz.prog gb 85 [.agg (A_.pc s), .agg (SessR.pc q), .agg (Method.pc m), .agg (Act28R.pc a)] (.tup [.agg (A_.pc ((F6_ s q m a).1)), .agg (SessR.pc ((F6_ s q m a).2.1)), .bool ((F6_ s q m a).2.2)]):=by
  refine fC Tryz.func85 tv85 Tryz.ntmps85 fun w N H hG=>?_;have s_place_l:s.place.length<=9223372036854775807:=w.1.1;have s_feed_rest_l:s.feed.rest.length<=9223372036854775807:=w.1.2.1;have s_feed_err_r:-9223372036854775808<=s.feed.err/\s.feed.err<=9223372036854775807:=w.1.2.2.1;have q_place_l:q.place.length<=9223372036854775807:=w.2.1.1;have q_rest_l:q.rest.length<=9223372036854775807:=w.2.1.2.1;have q_bad_r:-9223372036854775808<=q.bad/\q.bad<=9223372036854775807:=w.2.1.2.2.1;have m_channel_r:0<=m.channel/\m.channel<=255:=w.2.2.1.1;have m_kind_r:0<=m.kind/\m.kind<=255:=w.2.2.1.2.1;have m_name_l:m.name.length<=9223372036854775807:=w.2.2.1.2.2.1;have m_other_l:m.other.length<=9223372036854775807:=w.2.2.1.2.2.2.1;have m_key_l:m.key.length<=9223372036854775807:=w.2.2.1.2.2.2.2.1;have m_head_l:m.head.length<=140737488355328:=w.2.2.1.2.2.2.2.2.1.1;have m_body_l:m.body.length<=9223372036854775807:=w.2.2.1.2.2.2.2.2.2.1;have m_n_r:0<=m.n/\m.n<=18446744073709551615:=w.2.2.1.2.2.2.2.2.2.2.1;have m_m_r:0<=m.m/\m.m<=18446744073709551615:=w.2.2.1.2.2.2.2.2.2.2.2.1;have a_dow_r:0<=a.dow/\a.dow<=255:=w.2.2.2.1.1;have a_m_channel_r:0<=a.m.channel/\a.m.channel<=255:=w.2.2.2.1.2.1;have a_m_kind_r:0<=a.m.kind/\a.m.kind<=255:=w.2.2.2.1.2.2.1;have a_m_name_l:a.m.name.length<=9223372036854775807:=w.2.2.2.1.2.2.2.1;have a_m_other_l:a.m.other.length<=9223372036854775807:=w.2.2.2.1.2.2.2.2.1;have a_m_key_l:a.m.key.length<=9223372036854775807:=w.2.2.2.1.2.2.2.2.2.1;have a_m_head_l:a.m.head.length<=140737488355328:=w.2.2.2.1.2.2.2.2.2.2.1.1;have a_m_body_l:a.m.body.length<=9223372036854775807:=w.2.2.2.1.2.2.2.2.2.2.2.1;have a_m_n_r:0<=a.m.n/\a.m.n<=18446744073709551615:=w.2.2.2.1.2.2.2.2.2.2.2.2.1;have a_m_m_r:0<=a.m.m/\a.m.m<=18446744073709551615:=w.2.2.2.1.2.2.2.2.2.2.2.2.2.1;have a_chunk_l:a.chunk.length<=9223372036854775807:=w.2.2.2.1.2.2.2.2.2.2.2.2.2.2.2.1;have a_tick_r:0<=a.tick/\a.tick<=18446744073709551615:=w.2.2.2.1.2.2.2.2.2.2.2.2.2.2.2.2.1;have a_err_r:0<=a.err/\a.err<=255:=w.2.2.2.1.2.2.2.2.2.2.2.2.2.2.2.2.2.1;have a_item_mail_id_r:0<=a.item.mail.id/\a.item.mail.id<=18446744073709551615:=w.2.2.2.1.2.2.2.2.2.2.2.2.2.2.2.2.2.2.1;have a_item_mail_shop_l:a.item.mail.shop.length<=9223372036854775807:=w.2.2.2.1.2.2.2.2.2.2.2.2.2.2.2.2.2.2.2.1;have a_item_mail_key_l:a.item.mail.key.length<=9223372036854775807:=w.2.2.2.1.2.2.2.2.2.2.2.2.2.2.2.2.2.2.2.2.1;have a_item_mail_head_l:a.item.mail.head.length<=140737488355328:=w.2.2.2.1.2.2.2.2.2.2.2.2.2.2.2.2.2.2.2.2.2.1.1;have a_item_mail_body_l:a.item.mail.body.length<=9223372036854775807:=w.2.2.2.1.2.2.2.2.2.2.2.2.2.2.2.2.2.2.2.2.2.2.1;have a_item_mail_due_r:0<=a.item.mail.due/\a.item.mail.due<=18446744073709551615:=w.2.2.2.1.2.2.2.2.2.2.2.2.2.2.2.2.2.2.2.2.2.2.2.1;have a_item_mail_hops_r:0<=a.item.mail.hops/\a.item.mail.hops<=255:=w.2.2.2.1.2.2.2.2.2.2.2.2.2.2.2.2.2.2.2.2.2.2.2.2.1;have a_at__r:0<=a.at_/\a.at_<=255:=w.2.2.2.1.2.2.2.2.2.2.2.2.2.2.2.2.2.2.2.2.2.2.2.2.2.2.2.1;have e0:=F6_.eq_1 s q m a;generalize F6_ s q m a=z at e0 ⊢;refine gm tv85 17 [0,1,2,3,4,5] fun B2=>?_;refine cV e0 R24_ (Fe_ _ _ _) rfl fun r hr8 e10 w9=>?_
  (try have hA10:=Uo_ (m:=m) (t:=a.tick) (show SOk s _ by assumption) (by first|omega|simp);(try rw[<- hr8] at hA10);obtain⟨hA10_0,⟨hA10_1,hA10_2⟩,hA10_3,hA10_4⟩:=hA10)
  refine gm tv85 12 [] fun _=>?_;refine aN [6,7,8,9,10,11] 15 mixd ?_;refine gX tv85 [0,1,3,4] 11 ?_;refine vE 2 rfl (eC (Ko_ _) rfl ?_);generalize hr14:Ie_ m=r1;intro w13;have e15:=e10.trans (Aq_ hr14.symm);have hr14:=hr14.symm
  (try have hA15:=Kg_ m;(try rw[<- hr14] at hA15))
  refine vE 5 rfl (eC (Yc_ _ _ _) rfl ?_);generalize hr18:E4_ q r1 a.tick=r2;intro w17;have e19:=e15.trans (Aq_ hr18.symm);have hr18:=hr18.symm
  (try have hA19:=(show QOk (E4_ q r1 a.tick).1 _ from rPlan_Q (by assumption) (by omega) (by omega));(try rw[<- hr18] at hA19))
  refine gX tv85 [6,7,8,9,10] 4 ?_;refine vtp 11 rfl (by kernel_rfl) (by kernel_rfl) (sA tv85 ?_);refine gX tv85 [12,13,14] 0 ?_;refine vD ?_;refine gx tv85 4 ?_;refine cV e19 R6_ (N8_ _) rfl fun r3 hr21 e23 w22=>?_;have hA23:=X7_ r.2.2.1
  (try rw[<- hr21] at hA23)
  refine gx tv85 15 ?_;refine callg rfl (fun hc=>(Hx_ _)) rfl ⟨(fun hc=>hc),trivial⟩ rfl rfl fun _=>?_;refine gx tv85 1 ?_;refine callg rfl (fun hc=>(Fm_ _ _)) rfl ⟨(fun hc=>hc),(fun hc=>hc),trivial⟩ rfl rfl fun _=>?_;refine gy tv85 5 ?_;refine callg rfl (fun hc=>(Iv_ _ _)) rfl ⟨(fun hc=>hc),(fun hc=>hc),trivial⟩ rfl rfl fun _=>?_;refine gy tv85 4 ?_;refine cE e23 (fun h25 e26=>?_) (fun h25 e35=>?_)
  · refine gx tv85 1 ?_;refine aN [4,5,6,7,8,9,10,11] 5 mixd ?_;refine gX tv85 [0,1] 3 ?_;refine vE 2 rfl (sA tv85 ?_);refine vT 3 rfl (sA tv85 ?_);refine gX tv85 [4] 0 ?_;refine vD ?_;refine gx tv85 3 ?_;subst e26;exact qr3
  have h27:=orl h25;have h28:=orl h27;have h29:=Bf_ h28;have p30:=dt h29;have h31:=orr h27;have h32:=Bf_ h31;have h33:=orr h25;have h34:=Bf_ h33;refine gx tv85 10 ?_;refine cD e35 (fun p37 e38=>?_) (fun p39 e40=>?_)
  · refine gx tv85 1 ?_;refine aN [4,5,6,7,8,9,10,11] 5 mixd ?_;refine gX tv85 [0,1] 3 ?_;refine vE 2 rfl (sA tv85 ?_);refine vT 3 rfl (sA tv85 ?_);refine gX tv85 [4] 0 ?_;refine vD ?_;refine gx tv85 3 ?_;subst e38;exact qr3
  refine gx tv85 6 ?_;refine ef (mksl 6 r.2.2.1.length Bs_.pc (⟨(⟨(⟨0,[],[],[],[],0,0⟩:Mail),false,false⟩:ItemR),0,0⟩:Bs_) tv85 rfl rfl rfl rfl rfl rfl rfl rfl rfl rfl (by first|omega|(simp;omega)) (by omega) rfl rfl fun u41=>?_);have hmk41:(List.replicate r.2.2.1.length (⟨(⟨(⟨0,[],[],[],[],0,0⟩:Mail),false,false⟩:ItemR),0,0⟩:Bs_)).length=r.2.2.1.length:=List.length_replicate;refine gx tv85 8 ?_;refine q1 (eidx 0 tv85 rfl rfl rfl rfl rfl rfl rfl rfl (by omega)) rfl fun w43=>?_;refine q1 (efld rfl fl232_0) rfl fun w44=>?_;have hc45:=getG (xs:=(List.replicate r.2.2.1.length (⟨(⟨(⟨0,[],[],[],[],0,0⟩:Mail),false,false⟩:ItemR),0,0⟩:Bs_))) (k:=0) (by omega);refine ef (estA (i:=6) 0 0 (⟨a.item,(gt (List.replicate r.2.2.1.length (⟨(⟨(⟨0,[],[],[],[],0,0⟩:Mail),false,false⟩:ItemR),0,0⟩:Bs_)) 0).count,(gt (List.replicate r.2.2.1.length (⟨(⟨(⟨0,[],[],[],[],0,0⟩:Mail),false,false⟩:ItemR),0,0⟩:Bs_)) 0).lost⟩:Bs_) tv85 rfl rfl rfl rfl rfl rfl (by omega) rfl (Nat.le_of_ble_eq_true rfl) (fun _ h=>by obtain rfl :=Option.some.inj (h.symm.trans hc45);rfl) ?_);have hset45:((List.replicate r.2.2.1.length (⟨(⟨(⟨0,[],[],[],[],0,0⟩:Mail),false,false⟩:ItemR),0,0⟩:Bs_)).set 0 (⟨a.item,(gt (List.replicate r.2.2.1.length (⟨(⟨(⟨0,[],[],[],[],0,0⟩:Mail),false,false⟩:ItemR),0,0⟩:Bs_)) 0).count,(gt (List.replicate r.2.2.1.length (⟨(⟨(⟨0,[],[],[],[],0,0⟩:Mail),false,false⟩:ItemR),0,0⟩:Bs_)) 0).lost⟩:Bs_)).length=(List.replicate r.2.2.1.length (⟨(⟨(⟨0,[],[],[],[],0,0⟩:Mail),false,false⟩:ItemR),0,0⟩:Bs_)).length:=List.length_set ..;refine gx tv85 6 ?_;refine cV e40 R0_ (Jd_ _) rfl fun r4 hr47 e49 w48=>?_;refine gx tv85 3 ?_;refine cN e49 (fun p52 e53=>?_) (fun p73 e74=>?_)
  · refine gx tv85 5 ?_;refine aN [7,8,9,10,11,12] 11 mixd ?_;refine gX tv85 [0,1,2,3] 7 ?_;refine vC 4 rfl (Jd_ _) rfl fun w54=>?_;refine vE 5 rfl (eC (Fn.le (E5_ _ _ [] _) (B_ (ple rfl) (B_ (ple rfl) (B_ Ak_ (B_ (ple rfl) Ag_)))) (ple rfl) rfl) rfl ?_);generalize hr56:H_ r.1 m [] (F5_ a)=r5;intro w55;have e57:=e53.trans (Aq_ hr56.symm);have hr56:=hr56.symm
    (try have hA57:=Nx_ (m:=m) (l:=[]) (e:=(F5_ a)) (show SOk r.1 _ by assumption) (Nat.le_succ _) (fun _=>Nat.le_refl _) (by first|assumption|exact Ki_ (by simp) (by omega)|simp) (by omega);(try rw[<- hr56] at hA57);obtain⟨hA57_0,hA57_1,hA57_2⟩:=hA57)
    refine gX tv85 [6,7,8] 2 ?_;refine vtp 9 rfl (by kernel_rfl) (by kernel_rfl) (sA tv85 ?_);refine gX tv85 [10] 0 ?_;refine vD ?_;refine gx tv85 2 ?_;refine aN [7,8,9,10,11,12] 13 mixd ?_;refine gX tv85 [0,1,3,4,5] 8 ?_;refine vE 2 rfl (eC (Ko_ _) rfl ?_);generalize hr60:Ie_ m=r6;intro w59;have e61:=e57.trans (Aq_ hr60.symm);have hr60:=hr60.symm
    (try have hA61:=Kg_ m;(try rw[<- hr60] at hA61))
    refine vC 6 rfl (Jd_ _) rfl fun w63=>?_;refine vE 7 rfl (eC (Pu_ _ _ _ _) rfl ?_);generalize hr65:D3_ r2.1 r6 a.item (F5_ a)=r7;intro w64;have e66:=e61.trans (Aq_ hr65.symm);refine gX tv85 [8,9,10] 2 ?_;refine vtp 11 rfl (by kernel_rfl) (by kernel_rfl) (sA tv85 ?_);refine gX tv85 [12] 0 ?_;refine vD ?_;refine gx tv85 2 ?_;refine aN [4,5,7,8,9,10,11,12] 9 mixd ?_;refine gX tv85 [0,1,2,4] 5 ?_;refine vE 3 rfl (eC (Hx_ _) rfl ?_);generalize hr68:Ge_ r5.2=r8;intro w67;have e69:=e66.trans (Aq_ hr68.symm);have hr68:=hr68.symm;have hA69:=Nf_ r5.2
    (try rw[<- hr68] at hA69)
    refine vC 5 rfl (Fm_ _ _) rfl fun w71=>?_;refine vE 6 rfl (sA tv85 ?_);refine vtp 7 rfl (by kernel_rfl) (by kernel_rfl) (sA tv85 ?_);refine gX tv85 [8] 0 ?_;refine vD ?_;refine gx tv85 2 ?_;subst e69;exact qr3
  refine gx tv85 3 ?_;refine aN [6,7,8,9,10,11,12] 11 mixd ?_;refine gX tv85 [0,1,2,3] 7 ?_;refine vC 4 rfl (Jd_ _) rfl fun w75=>?_;refine vE 5 rfl (Lf_ 6 rfl (Me_ (eC (E5_ _ _ _ _) rfl ?_)));generalize hr77:H_ r.1 m ((List.replicate r.2.2.1.length (⟨(⟨(⟨0,[],[],[],[],0,0⟩:Mail),false,false⟩:ItemR),0,0⟩:Bs_)).set 0 (⟨a.item,(gt (List.replicate r.2.2.1.length (⟨(⟨(⟨0,[],[],[],[],0,0⟩:Mail),false,false⟩:ItemR),0,0⟩:Bs_)) 0).count,(gt (List.replicate r.2.2.1.length (⟨(⟨(⟨0,[],[],[],[],0,0⟩:Mail),false,false⟩:ItemR),0,0⟩:Bs_)) 0).lost⟩:Bs_)) (F5_ a)=r9;intro w76;have e78:=e74.trans (Aq_ hr77.symm);have hr77:=hr77.symm
  (try have hA78:=Nx_ (m:=m) (l:=((List.replicate r.2.2.1.length (⟨(⟨(⟨0,[],[],[],[],0,0⟩:Mail),false,false⟩:ItemR),0,0⟩:Bs_)).set 0 (⟨a.item,(gt (List.replicate r.2.2.1.length (⟨(⟨(⟨0,[],[],[],[],0,0⟩:Mail),false,false⟩:ItemR),0,0⟩:Bs_)) 0).count,(gt (List.replicate r.2.2.1.length (⟨(⟨(⟨0,[],[],[],[],0,0⟩:Mail),false,false⟩:ItemR),0,0⟩:Bs_)) 0).lost⟩:Bs_))) (e:=(F5_ a)) (show SOk r.1 _ by assumption) (Nat.le_succ _) (fun _=>Nat.le_refl _) (by first|assumption|exact Ki_ (by simp) (by omega)|simp) (by omega);(try rw[<- hr77] at hA78);obtain⟨hA78_0,hA78_1,hA78_2⟩:=hA78)
  refine gX tv85 [6,7,8] 2 ?_;refine vtp 9 rfl (by kernel_rfl) (by kernel_rfl) (sA tv85 ?_);refine gX tv85 [10] 0 ?_;refine vD ?_;refine gx tv85 2 ?_;refine aN [6,7,8,9,10,11] 13 mixd ?_;refine gX tv85 [0,1,3,4,5] 8 ?_;refine vE 2 rfl (eC (Ko_ _) rfl ?_);generalize hr81:Ie_ m=r10;intro w80;have e82:=e78.trans (Aq_ hr81.symm);have hr81:=hr81.symm
  (try have hA82:=Kg_ m;(try rw[<- hr81] at hA82))
  refine vC 6 rfl (Jd_ _) rfl fun w84=>?_;refine vE 7 rfl (eC (Pu_ _ _ _ _) rfl ?_);generalize hr86:D3_ r2.1 r10 a.item (F5_ a)=r11;intro w85;have e87:=e82.trans (Aq_ hr86.symm);refine gX tv85 [8,9,10] 2 ?_;refine vtp 11 rfl (by kernel_rfl) (by kernel_rfl) (sA tv85 ?_);refine gX tv85 [12] 0 ?_;refine vD ?_;refine gx tv85 2 ?_;refine aN [4,5,6,7,8,9,10,11] 9 mixd ?_;refine gX tv85 [0,1,2,4] 5 ?_;refine vE 3 rfl (eC (Hx_ _) rfl ?_);generalize hr89:Ge_ r9.2=r12;intro w88;have e90:=e87.trans (Aq_ hr89.symm);have hr89:=hr89.symm;have hA90:=Nf_ r9.2
  (try rw[<- hr89] at hA90)
  refine vC 5 rfl (Fm_ _ _) rfl fun w92=>?_;refine vE 6 rfl (sA tv85 ?_);refine vtp 7 rfl (by kernel_rfl) (by kernel_rfl) (sA tv85 ?_);refine gX tv85 [8] 0 ?_;refine vD ?_;refine gx tv85 2 ?_;subst e90;exact qr3
abbrev R25_:(A_×(List Method)×Int)->PV:=fun r=> .tup [.agg (A_.pc r.1), .sl Method.pc r.2.1, .int .i64 r.2.2]
abbrev R26_:(SessR×(List Method)×Int)->PV:=fun r=> .tup [.agg (SessR.pc r.1), .sl Method.pc r.2.1, .int .i64 r.2.2]
abbrev R27_:(A_×SessR×Bool)->PV:=fun r=> .tup [.agg (A_.pc r.1), .agg (SessR.pc r.2.1), .bool r.2.2]
def tbv86:Tb:=[(9,ty9),(64,ty64),(67,ty67),(75,ty75),(86,ty86),(97,ty97),(101,ty101),(221,ty221)]
theorem tv86:tbB Tryz.prog tbv86=true:=by kernel_rfl
theorem Yj_ (s:A_) (q:SessR) (a:Act28R) (hs:SOk s 5000000:=by first|assumption|exact Ff_ (by assumption) (by omega)) (hq:QOk q 5000000:=by first|assumption|exact Fq_ (by assumption) (by omega)) (hsr:s.feed.rest.length<=100000:=by first|omega|(simp;done)) (hqr:q.rest.length<=100000:=by first|omega|(simp;done)) (hck:a.chunk.length<=600:=by omega) (hi:a.item.mail.head.length<=1000000:=by omega):Fn Tryz.prog gb 80 [.agg (A_.pc s), .agg (SessR.pc q), .agg (Act28R.pc a)] (.tup [.agg (A_.pc ((G7_ s q a).1)), .agg (SessR.pc ((G7_ s q a).2.1)), .bool ((G7_ s q a).2.2)]):=by
  refine fC Tryz.func80 tv86 Tryz.ntmps80 fun w N H hG=>?_;have e0:=G7_.eq_1 s q a;generalize G7_ s q a=z at e0 ⊢;refine gm tv86 15 [0,1,2,3,4] fun B2=>?_;refine cV e0 R25_ (Jo_ _ _) rfl fun r hr7 e9 w8=>?_;have hA9:=Uk_ s a.chunk
  (try rw[<- hr7] at hA9)
  have hA10:=stake_hd s a.chunk
  (try rw[<- hr7] at hA10)
  (try have hA11:=Qy_ (s:=s) (n:=5000000) a.chunk (by assumption);(try rw[<- hr7] at hA11))
  refine gm tv86 14 [] fun _=>?_;refine cV e9 R26_ (Zm_ _ _) rfl fun r1 hr14 e16 w15=>?_;have hA16:=(T9_ q a.chunk).1
  (try rw[<- hr14] at hA16)
  (try have hA17:=Q7_ (q:=q) (n:=5000000) a.chunk (by assumption);(try rw[<- hr14] at hA17))
  refine gmy tv86 24 [] fun _=>?_;refine cE e16 (fun h20 e21=>?_) (fun h20 e28=>?_)
  · refine gx tv86 1 ?_;refine aN [3,4,5,6,7,8,9,10] 5 mixd ?_;refine gX tv86 [0,1] 3 ?_;refine vE 2 rfl (sA tv86 ?_);refine vT 3 rfl (sA tv86 ?_);refine gX tv86 [4] 0 ?_;refine vD ?_;refine gx tv86 3 ?_;subst e21;exact qr3
  have h22:=orl h20;have h23:=Bf_ h22;have p24:=dt h23;have h25:=orr h20;have h26:=Bf_ h25;have p27:=dt h26;refine gx tv86 11 ?_;refine loop (ι:=Nat×A_×SessR) [3,4,5,6,7,11,46,47] [2,3,4] (fun ⟨k,x,x1⟩=>[(48, .int .i64 (k:Int))]) (fun ⟨k,x,x1⟩=>[(0, .box (B2 0) 75 (A_.pc x)),(1, .box (B2 1) 97 (SessR.pc x1))]) (fun ⟨k,x,x1⟩=>k<=r.2.1.length/\z=Eb_ a r1 (r.2.1.drop k) k x x1/\SOk x (5000000+k)/\QOk x1 (5000000+k)) (fun ⟨k,x,x1⟩=>r.2.1.length-k) ⟨0,r.1,r1.1⟩ ⟨rfl,trivial⟩ ⟨rfl,rfl,trivial⟩ ?_ ?_
  · exact⟨Nat.zero_le _,e28,⟨by assumption,by assumption⟩⟩
  rintro⟨k,x,x1⟩ ⟨hp29_1,hp29_2,hp29_3⟩;obtain⟨hk1,hk2⟩:=hp29_3;refine gx tv86 6 ?_;refine cn rfl (fun p31=>?_) fun p62=>?_
  · have e32:=C1_ (f:=fun zz=>Eb_ a r1 zz k x x1) hp29_2 (Fr_ (by omega)) (Eb_.eq_2 _ _ _ _ _ _ _);have hc33:=getG (xs:=r.2.1) (k:=k) (by omega)
    (first|(have hzz_hc33:=(show MHd r.2.1 by assumption);obtain⟨hz_hc33a,hz_hc33b,hz_hc33c⟩:=hzz_hc33 _ (List.mem_of_getElem? hc33))|skip)
    refine gx tv86 7 ?_;refine q1 (qidx tv86 k rfl rfl rfl hc33 rfl rfl rfl rfl) rfl fun w34=>?_;refine gm tv86 8 [5] fun B36=>?_;refine aN [6,7,8,9,10,11] 8 mixd ?_;refine gX tv86 [0,2,3] 5 ?_;have hc37:=getG (xs:=r1.2.1) (k:=k) (by omega)
    (first|(have hzz_hc37:=(show MHd r1.2.1 by assumption);obtain⟨hz_hc37a,hz_hc37b,hz_hc37c⟩:=hzz_hc37 _ (List.mem_of_getElem? hc37))|skip)
    refine vq 4 (qidx tv86 k rfl rfl rfl hc37 rfl rfl rfl rfl) rfl (by kernel_rfl) rfl fun w38=>?_;refine gX tv86 [5] 3 ?_;refine vE 1 rfl (eC (Ko_ _) rfl ?_);generalize hr40:Ie_ (gt r.2.1 k)=r2;intro w39;have e41:=e32.trans (Aq_ hr40.symm);have hr40:=hr40.symm
    (try have hA41:=Kg_ (gt r.2.1 k);(try rw[<- hr40] at hA41))
    refine vC 6 rfl (Zc_ _ _) rfl fun w43=>?_;refine gX tv86 [7] 0 ?_;refine vD ?_;refine gx tv86 1 ?_;refine cE e41 (fun h44 e46=>?_) (fun h44 e48=>?_)
    · have h45:=Br_ h44;refine gx tv86 1 ?_;refine aN [3,4,6,7,8,9,10,11] 5 mixd ?_;refine gX tv86 [0,1] 3 ?_;refine vE 2 rfl (sA tv86 ?_);refine vT 3 rfl (sA tv86 ?_);refine gX tv86 [4] 0 ?_;refine vD ?_;refine gx tv86 8 ?_;subst e46;exact qr3
    have h47:=Bf_ h44;refine gx tv86 8 ?_;refine cV e48 R27_ (Sp_ _ _ _ _) rfl fun r3 hr49 e51 w50=>?_;have hA51:=K3_ x x1 (gt r.2.1 k) a
    (try rw[<- hr49] at hA51)
    (try have hA52:=ask_ok (s:=x) (q:=x1) (m:=(gt r.2.1 k)) (a:=a) (show SOk x _ by assumption) (show QOk x1 _ by assumption) (by omega) (by omega) (by omega);(try rw[<- hr49] at hA52);obtain⟨hA52_0,hA52_1⟩:=hA52)
    refine gm tv86 18 [6,7] fun B55=>?_;refine cE e51 (fun h57 e59=>?_) (fun h57 e61=>?_)
    · have h58:=Br_ h57;refine gx tv86 1 ?_;refine aN [3,4,8,9,10,11,12,13] 5 mixd ?_;refine gX tv86 [0,1] 3 ?_;refine vE 2 rfl (sA tv86 ?_);refine vT 3 rfl (sA tv86 ?_);refine gX tv86 [4] 0 ?_;refine vD ?_;refine gx tv86 8 ?_;subst e59;exact qr3
    have h60:=Bf_ h57;refine gx tv86 2 ?_;refine aN [0,1,8,9,10,11,12,13] 4 mixd ?_;refine gX tv86 [0,1] 2 ?_;refine vE 2 rfl (sA tv86 ?_);refine vT 3 rfl (sA tv86 ?_);refine vD ?_;refine gy tv86 6 ?_;refine next ⟨(k+1),r3.1,r3.2.1⟩ rfl rfl ⟨rfl,trivial⟩ ⟨rfl,rfl,trivial⟩ ?_ ?_
    · (try simp only[]);omega
    exact⟨by (try simp only[]);omega,e61,⟨by exact Ff_ (by assumption) (by omega),by exact Fq_ (by assumption) (by omega)⟩⟩
  have e63:=C1_ (f:=fun zz=>Eb_ a r1 zz k x x1) hp29_2 (Gb_ (by omega)) (Eb_.eq_1 _ _ _ _ _);refine gx tv86 6 ?_;refine aN [3,4,5,6,7,8,9,10] 5 mixd ?_;refine gX tv86 [0,1] 3 ?_;refine vE 2 rfl (sA tv86 ?_);refine vT 3 rfl (sA tv86 ?_);refine gX tv86 [4] 0 ?_;refine vD ?_;refine gx tv86 2 ?_;subst e63;exact qr3
abbrev R28_:(List TakerS)->PV:=fun r=> .sl TakerS.pc r
abbrev R29_:(A_×Reply)->PV:=fun r=> .tup [.agg (A_.pc r.1), .agg (Reply.pc r.2)]
abbrev R30_:(A_×(List DeedR))->PV:=fun r=> .tup [.agg (A_.pc r.1), .sl DeedR.pc r.2]
abbrev R31_:(SessR×(List DeedR))->PV:=fun r=> .tup [.agg (SessR.pc r.1), .sl DeedR.pc r.2]
abbrev R32_:Method->PV:=fun r=> .agg (Method.pc r)
def tbv87:Tb:=[(3,ty3),(5,ty5),(27,ty27),(64,ty64),(75,ty75),(77,ty77),(82,ty82),(97,ty97),(99,ty99),(101,ty101),(137,Uw_),(153,ty153),(167,ty167),(173,ty173)]
theorem tv87:tbB Tryz.prog tbv87=true:=by kernel_rfl
theorem Yz_ (s:A_) (q:SessR) (a:Act28R) (hs:SOk s 5000000:=by first|assumption|exact Ff_ (by assumption) (by omega)) (hq:QOk q 5000000:=by first|assumption|exact Fq_ (by assumption) (by omega)) (hsr:s.feed.rest.length<=100000:=by first|omega|(simp;done)) (hqr:q.rest.length<=100000:=by first|omega|(simp;done)) (hck:a.chunk.length<=600:=by omega) (hi:a.item.mail.head.length<=1000000:=by omega) (hmh:a.m.head.length<=1000000:=by omega):Fn Tryz.prog gb 29 [.agg (A_.pc s), .agg (SessR.pc q), .agg (Act28R.pc a)] (.tup [.agg (A_.pc ((G9_ s q a).1)), .agg (SessR.pc ((G9_ s q a).2.1)), .bool ((G9_ s q a).2.2)]):=by
  refine fC Tryz.func29 tv87 Tryz.ntmps29 fun w N H hG=>?_;have s_place_l:s.place.length<=9223372036854775807:=w.1.1;have s_feed_rest_l:s.feed.rest.length<=9223372036854775807:=w.1.2.1;have s_feed_err_r:-9223372036854775808<=s.feed.err/\s.feed.err<=9223372036854775807:=w.1.2.2.1;have q_place_l:q.place.length<=9223372036854775807:=w.2.1.1;have q_rest_l:q.rest.length<=9223372036854775807:=w.2.1.2.1;have q_bad_r:-9223372036854775808<=q.bad/\q.bad<=9223372036854775807:=w.2.1.2.2.1;have a_dow_r:0<=a.dow/\a.dow<=255:=w.2.2.1.1;have a_m_channel_r:0<=a.m.channel/\a.m.channel<=255:=w.2.2.1.2.1;have a_m_kind_r:0<=a.m.kind/\a.m.kind<=255:=w.2.2.1.2.2.1;have a_m_name_l:a.m.name.length<=9223372036854775807:=w.2.2.1.2.2.2.1;have a_m_other_l:a.m.other.length<=9223372036854775807:=w.2.2.1.2.2.2.2.1;have a_m_key_l:a.m.key.length<=9223372036854775807:=w.2.2.1.2.2.2.2.2.1;have a_m_head_l:a.m.head.length<=140737488355328:=w.2.2.1.2.2.2.2.2.2.1.1;have a_m_body_l:a.m.body.length<=9223372036854775807:=w.2.2.1.2.2.2.2.2.2.2.1;have a_m_n_r:0<=a.m.n/\a.m.n<=18446744073709551615:=w.2.2.1.2.2.2.2.2.2.2.2.1;have a_m_m_r:0<=a.m.m/\a.m.m<=18446744073709551615:=w.2.2.1.2.2.2.2.2.2.2.2.2.1;have a_chunk_l:a.chunk.length<=9223372036854775807:=w.2.2.1.2.2.2.2.2.2.2.2.2.2.2.1;have a_tick_r:0<=a.tick/\a.tick<=18446744073709551615:=w.2.2.1.2.2.2.2.2.2.2.2.2.2.2.2.1;have a_err_r:0<=a.err/\a.err<=255:=w.2.2.1.2.2.2.2.2.2.2.2.2.2.2.2.2.1;have a_item_mail_id_r:0<=a.item.mail.id/\a.item.mail.id<=18446744073709551615:=w.2.2.1.2.2.2.2.2.2.2.2.2.2.2.2.2.2.1;have a_item_mail_shop_l:a.item.mail.shop.length<=9223372036854775807:=w.2.2.1.2.2.2.2.2.2.2.2.2.2.2.2.2.2.2.1;have a_item_mail_key_l:a.item.mail.key.length<=9223372036854775807:=w.2.2.1.2.2.2.2.2.2.2.2.2.2.2.2.2.2.2.2.1;have a_item_mail_head_l:a.item.mail.head.length<=140737488355328:=w.2.2.1.2.2.2.2.2.2.2.2.2.2.2.2.2.2.2.2.2.1.1;have a_item_mail_body_l:a.item.mail.body.length<=9223372036854775807:=w.2.2.1.2.2.2.2.2.2.2.2.2.2.2.2.2.2.2.2.2.2.1;have a_item_mail_due_r:0<=a.item.mail.due/\a.item.mail.due<=18446744073709551615:=w.2.2.1.2.2.2.2.2.2.2.2.2.2.2.2.2.2.2.2.2.2.2.1;have a_item_mail_hops_r:0<=a.item.mail.hops/\a.item.mail.hops<=255:=w.2.2.1.2.2.2.2.2.2.2.2.2.2.2.2.2.2.2.2.2.2.2.2.1;have a_at__r:0<=a.at_/\a.at_<=255:=w.2.2.1.2.2.2.2.2.2.2.2.2.2.2.2.2.2.2.2.2.2.2.2.2.2.2.1;have e0:=G9_.eq_1 s q a;generalize G9_ s q a=z at e0 ⊢;refine gm tv87 11 [0,1,2,3,4] fun B2=>?_;obtain⟨o,e_o,q_o⟩:=Ni_ e0;refine Dv_ (ι:=Unit) [3,4,5,6,7] [0,1,2,3,4] (fun _=>[]) (fun _=>[]) (fun _=>o = .fin ()) ?_ ?_
  · refine gy tv87 9 ?_;obtain⟨o1,e_o1,q_o1⟩:=Cc_ e_o;refine Dv_ (ι:=Bool) [3,4,5,6,7,8,23] [0,1,2,3,4] (fun v=>[(24, .bool v)]) (fun v=>[]) (fun v=>o1=v) ?_ ?_
    · refine gx tv87 6 ?_;refine cD e_o1 (fun p8 e9=>?_) (fun p10 e11=>?_)
      · refine gx tv87 1 ?_;refine nX (decide ((a.dow%8)=0)) ?_ ⟨rfl,trivial⟩ trivial;exact e9
      refine gx tv87 4 ?_;refine nX (decide ((a.dow%8)=1)) ?_ ⟨rfl,trivial⟩ trivial;exact e11
    rintro v hp12;have e13:=D5_ q_o1 hp12;refine gx tv87 1 ?_;refine cE e13 (fun h14 e15=>?_) (fun h14 e21=>?_)
    · refine gx tv87 5 ?_;refine cV e15 R27_ (Yj_ _ _ _) rfl fun r hr16 e18 w17=>?_;refine gm tv87 12 [] fun _=>?_;have e20:=Ez_ q_o e18;subst e20;exact qr3
    refine gx tv87 6 ?_;refine cD e21 (fun p23 e24=>?_) (fun p74 e75=>?_)
    · refine gm tv87 10 [5] fun B26=>?_;obtain⟨o2,e_o2,q_o2⟩:=Cc_ e24;refine Dv_ (ι:=TakerS) [3,4,5,6,7,8,9] [0,1,2,3,4] (fun x=>[]) (fun x=>[(5, .box (B26 0) 153 (TakerS.pc x))]) (fun x=>o2=x) ?_ ?_
      · refine gx tv87 3 ?_;refine cV e_o2 R28_ (Ep_ _) rfl fun r1 hr27 e29 w28=>?_;have hem29:=emodN a.at_ r1.length;obtain⟨hem29a,hem29b⟩:=hem29
        (try have hA30:=Tr_ (s:=s) (show SOk s _ by assumption);(try rw[<- hr27] at hA30))
        refine gx tv87 10 ?_;refine cD e29 (fun p33 e34=>?_) (fun p38 e39=>?_)
        · have hc35:=getG (xs:=r1) (k:=((a.at_%(r1.length:Int))).toNat) (by omega);refine gy tv87 8 ?_;refine q1 (qidx tv87 ((a.at_%(r1.length:Int))).toNat rfl rfl (by omega) hc35 rfl rfl rfl rfl) rfl fun w36=>?_;refine gm tv87 3 [] fun _=>?_;refine nX (gt r1 (((a.at_%(r1.length:Int))).toNat)) ?_ trivial ⟨rfl,trivial⟩;exact e34
        refine gx tv87 1 ?_;refine nX (⟨a.at_,3,[113]⟩:TakerS) ?_ trivial ⟨rfl,trivial⟩;exact e39
      rintro x hp40;have e41:=D5_ q_o2 hp40;refine gx tv87 7 ?_;refine cV e41 R29_ (Co_ _ _ _) rfl fun r2 hr42 e44 w43=>?_
      (try have hA44:=O5_ (s:=s) x a.item (by assumption) (by omega);(try rw[<- hr42] at hA44))
      (try have hA45:=Ri_ s x a.item (by omega);(try rw[<- hr42] at hA45))
      refine gm tv87 15 [6,7] fun B48=>?_;refine cV e44 R21_ (Ra_ _ _ _) rfl fun r3 hr50 e52 w51=>?_;refine gm tv87 10 [8,9] fun B54=>?_;refine Dv_ (ι:=Value) [6,7] [0,1,2,5,6,7,8,9] (fun u56=>[(8, .bool (Ec_ (Ge_ [r2.2]) [r3.2]))]) (fun u56=>[(3, .box (B2 3) 75 (A_.pc r2.1)),(4, .box (B2 4) 97 (SessR.pc r3.1)),(11, .arr u56 13 167 Reply.pc [r3.2])]) (fun u56=>PV.wf (.sl Reply.pc (Ge_ [r2.2]))/\PV.wf (.bool (Ec_ (Ge_ [r2.2]) [r3.2]))) ?_ ?_
      · refine aN [3,4,10,11,12,13,14,15,16,17] 11 mixd ?_;refine gX tv87 [0,1,2,5] 7 ?_;refine veL 3 [6] (by kernel_rfl) ⟨⟨_,rfl,?_⟩,⟨_,rfl,?_⟩,trivial⟩
        · refine ej rfl (bsl 10 Reply.pc [r2.2] tv87 rfl rfl rfl rfl rfl (fun _=>rfl) rfl (by decide) (by decide) rfl fun u57=>?_);refine veL 4 [6] (by kernel_rfl) ⟨⟨_,rfl,?_⟩,⟨_,rfl,?_⟩,trivial⟩
          · refine ej rfl (Lf_ 10 rfl (Me_ (eC (Hx_ _) rfl fun w58=>?_)));refine vE 6 rfl (bsl 11 Reply.pc [r3.2] tv87 rfl rfl rfl rfl rfl (fun _=>rfl) rfl (by decide) (by decide) rfl fun u59=>?_);refine vE 7 rfl (calll 11 rfl (Fm_ _ _) rfl rfl rfl fun w60=>?_);refine vE 8 rfl (sA tv87 ?_);refine vE 9 rfl (sA tv87 ?_);refine gX tv87 [10] 0 ?_;refine vD ?_;refine nX (u59) ?_ ⟨rfl,trivial⟩ ⟨rfl,rfl,rfl,trivial⟩;exact⟨w58,w60⟩
          refine ej rfl (bsl 11 Reply.pc [r3.2] tv87 rfl rfl rfl rfl rfl (fun _=>rfl) rfl (by decide) (by decide) rfl fun u61=>?_);refine vE 4 rfl (Lf_ 10 rfl (Me_ (eC (Hx_ _) rfl fun w62=>?_)));refine vE 7 rfl (calll 11 rfl (Fm_ _ _) rfl rfl rfl fun w63=>?_);refine vE 8 rfl (sA tv87 ?_);refine vE 9 rfl (sA tv87 ?_);refine gX tv87 [10] 0 ?_;refine vD ?_;refine nX (u61) ?_ ⟨rfl,trivial⟩ ⟨rfl,rfl,rfl,trivial⟩;exact⟨w62,w63⟩
        refine ej rfl (bsl 11 Reply.pc [r3.2] tv87 rfl rfl rfl rfl rfl (fun _=>rfl) rfl (by decide) (by decide) rfl fun u64=>?_);refine vE 3 rfl (bsl 10 Reply.pc [r2.2] tv87 rfl rfl rfl rfl rfl (fun _=>rfl) rfl (by decide) (by decide) rfl fun u65=>?_);refine vE 4 rfl (Lf_ 10 rfl (Me_ (eC (Hx_ _) rfl fun w66=>?_)));refine vE 7 rfl (calll 11 rfl (Fm_ _ _) rfl rfl rfl fun w67=>?_);refine vE 8 rfl (sA tv87 ?_);refine vE 9 rfl (sA tv87 ?_);refine gX tv87 [10] 0 ?_;refine vD ?_;refine nX (u64) ?_ ⟨rfl,trivial⟩ ⟨rfl,rfl,rfl,trivial⟩;exact⟨w66,w67⟩
      generalize hr68:Ge_ [r2.2]=r4;rintro u56 ⟨w69,w70⟩;have e71:=e52.trans (Aq_ hr68.symm);have hr68:=hr68.symm;have hA71:=Nf_ [r2.2]
      (try rw[<- hr68] at hA71)
      refine gx tv87 5 ?_;have e73:=Ez_ q_o e71;subst e73;exact qr3
    refine gx tv87 6 ?_;refine cD e75 (fun p77 e78=>?_) (fun p97 e98=>?_)
    · refine gx tv87 5 ?_;refine cV e78 R30_ (Gv_ _ _) rfl fun r5 hr79 e81 w80=>?_
      (try have hA81:=send_len a.tick (show SOk s _ by assumption);(try rw[<- hr79] at hA81))
      (try have hA82:=(Ub_ s a.tick 0).1;(try rw[<- hr79] at hA82))
      refine gm tv87 13 [5] fun B85=>?_;refine cV e81 R31_ (Si_ _ _) rfl fun r6 hr86 e88 w87=>?_;refine gm tv87 11 [6] fun B90=>?_;refine cV e88 R6_ (N8_ _) rfl fun r7 hr91 e93 w92=>?_;have hA93:=X7_ r5.2
      (try rw[<- hr91] at hA93)
      refine gx tv87 8 ?_;refine aN [3,4,7,8,9,10,11,12] 8 mixd ?_;refine gX tv87 [0,1,2,3] 4 ?_;refine vC 4 rfl (Iv_ _ _) rfl fun w95=>?_;refine vE 5 rfl (sA tv87 ?_);refine vtp 6 rfl (by kernel_rfl) (by kernel_rfl) (sA tv87 ?_);refine gX tv87 [7] 0 ?_;refine vD ?_;refine gx tv87 5 ?_;have e96:=Ez_ q_o e93;subst e96;exact qr3
    refine gx tv87 2 ?_;refine nX () ?_ trivial trivial;exact e98
  rintro _ hp99;have e100:=Tn_ q_o hp99;refine gx tv87 6 ?_;refine cV e100 R32_ (Ko_ _) rfl fun r8 hr101 e103 w102=>?_
  (try have hA103:=Kg_ a.m;(try rw[<- hr101] at hA103))
  refine cV e103 R0_ (Ok_ _) rfl fun r9 hr105 e107 w106=>?_;refine gx tv87 3 ?_;refine cN e107 (fun p110 e111=>?_) (fun p113 e114=>?_)
  · refine gx tv87 1 ?_;refine aN [3,4,5,6,7,8,9,10] 5 mixd ?_;refine gX tv87 [0,1] 3 ?_;refine vE 2 rfl (sA tv87 ?_);refine vT 3 rfl (sA tv87 ?_);refine gX tv87 [4] 0 ?_;refine vD ?_;refine gx tv87 3 ?_;subst e111;exact qr3
  refine gx tv87 9 ?_;refine cV e114 R27_ (Sp_ _ _ _ _) rfl fun r10 hr115 e117 w116=>?_;have hA117:=K3_ s q a.m a
  (try rw[<- hr115] at hA117)
  (try have hA118:=ask_ok (s:=s) (q:=q) (m:=a.m) (a:=a) (show SOk s _ by assumption) (show QOk q _ by assumption) (by omega) (by omega) (by omega);(try rw[<- hr115] at hA118);obtain⟨hA118_0,hA118_1⟩:=hA118)
  refine gm tv87 9 [] fun _=>?_;subst e117;exact qr3
abbrev ty85:TI:=⟨.int .u16,1,2,[.int .u16 0]⟩
def tbv88:Tb:=[(3,ty3),(4,ty4),(5,ty5),(9,ty9),(27,ty27),(28,ty28),(64,ty64),(75,ty75),(77,ty77),(82,ty82),(85,ty85),(86,ty86),(91,ty91),(97,ty97),(101,ty101)]
theorem tv88:tbB Tryz.prog tbv88=true:=by kernel_rfl
theorem l28_SessionPlays_ok (place:Bs) (l:List Act28R):Fn Tryz.prog gb 6 [.str place, .sl Act28R.pc l] (.bool (Fj_ place l)):=by
  refine fC Tryz.func6 tv88 Tryz.ntmps6 fun w N H hG=>?_;have e0:=Fj_.eq_1 place l;generalize Fj_ place l=z at e0 ⊢;refine gx tv88 8 ?_;refine call Vo_ rfl rfl fun w1=>?_;refine gx tv88 3 ?_;refine cE e0 (fun h2 e4=>?_) (fun h2 e6=>?_)
  · have h3:=Br_ h2;refine gx tv88 7 ?_;subst e4;exact qr1
  have h5:=Bf_ h2;refine gx tv88 6 ?_;refine call (W0_ _) rfl rfl fun w7=>?_;refine gx tv88 3 ?_;refine callg rfl (fun hc=>(H7_ _)) rfl ⟨(fun hc=>hc),trivial⟩ rfl rfl fun _=>?_;refine gy tv88 4 ?_;refine cE e6 (fun h8 e9=>?_) (fun h8 e16=>?_)
  · refine gx tv88 7 ?_;subst e9;exact qr1
  have h10:=orl h8;have h11:=Bf_ h10;have hb11:=l28_ok h11
  (try obtain⟨hb11a,hb11b⟩:=hb11)
  have h13:=orr h8;have h14:=Bf_ h13;have p15:=dt h14;refine gx tv88 5 ?_;refine cV e16 R15_ (Lk_ _) rfl fun r hr17 e19 w18=>?_;have hA19:=snew_ok place 0
  (try rw[<- hr17] at hA19)
  have hA20:=Xf_ place
  (try rw[<- hr17] at hA20)
  refine gm tv88 17 [0,1] fun B23=>?_;refine loop (ι:=Nat×A_×SessR) [5,6,32,33] [] (fun ⟨k,x,x1⟩=>[(34, .int .i64 (k:Int))]) (fun ⟨k,x,x1⟩=>[(0, .box (B23 0) 75 (A_.pc x)),(1, .box (B23 1) 97 (SessR.pc x1))]) (fun ⟨k,x,x1⟩=>k<=l.length/\z=Bo_ (l.drop k) x x1/\SOk x (100000*k)/\QOk x1 (100000*k)/\x.feed.rest.length<=600*k/\x1.rest.length<=600*k) (fun ⟨k,x,x1⟩=>l.length-k) ⟨0,r,(⟨place,[],0,false,false,(⟨false,false,false,false,false⟩:A5_bool),(⟨(⟨0,[],[],false,false,0,(⟨[]⟩:Ap_)⟩:ChanR),(⟨0,[],[],false,false,0,(⟨[]⟩:Ap_)⟩:ChanR),(⟨0,[],[],false,false,0,(⟨[]⟩:Ap_)⟩:ChanR),(⟨0,[],[],false,false,0,(⟨[]⟩:Ap_)⟩:ChanR),(⟨0,[],[],false,false,0,(⟨[]⟩:Ap_)⟩:ChanR)⟩:A5_ChanR)⟩:SessR)⟩ ⟨rfl,trivial⟩ ⟨rfl,rfl,trivial⟩ ?_ ?_
  · exact⟨Nat.zero_le _,e19,⟨Ff_ (by assumption) (by omega),qzero _ _,by omega,by simp⟩⟩
  rintro⟨k,x,x1⟩ ⟨hp25_1,hp25_2,hp25_3⟩;obtain⟨hk1,hk2,hk3,hk4⟩:=hp25_3;refine gx tv88 6 ?_;refine cn rfl (fun p27=>?_) fun p71=>?_
  · have e28:=C1_ (f:=fun zz=>Bo_ zz x x1) hp25_2 (Fr_ (by omega)) (Bo_.eq_2 _ _ _ _);have hc29:=getG (xs:=l) (k:=k) (by omega);obtain⟨hz_hc29a,hz_hc29b,hz_hc29c,hz_hc29d⟩:=act28_r (w.2.1.2 (gt l k) (List.mem_of_getElem? hc29));obtain⟨hy_hc29a,hy_hc29b,hy_hc29c,hy_hc29d⟩:=(show AEl l by assumption) (gt l k) (List.mem_of_getElem? hc29);refine gx tv88 6 ?_;refine q1 (qidx tv88 k rfl rfl rfl hc29 rfl rfl rfl rfl) rfl fun w30=>?_;refine gm tv88 10 [2] fun B32=>?_;refine cV e28 R27_ (Yz_ _ _ _) rfl fun r1 hr33 e35 w34=>?_
    (try have hA35:=done_step (s:=x) (q:=x1) (a:=(gt l k)) (show SOk x _ by assumption) (show QOk x1 _ by assumption) (show _<=_ by assumption) (show _<=_ by assumption) (by omega) (by omega) (by omega) (by omega) (by omega) (by omega);(try rw[<- hr33] at hA35);obtain⟨hA35_0,hA35_1,hA35_2,hA35_3⟩:=hA35)
    refine gm tv88 13 [3,4] fun B38=>?_;refine aN [5,6,7,8,9,10] 25 mixd ?_;refine gX tv88 [0,1,2,3,6] 20 ?_;refine vE 4 rfl (ecallg rfl (fun hc=>(Ep_ r1.1)) rfl ⟨(fun hc=>hc),trivial⟩ rfl rfl fun _=>?_);refine vE 5 rfl (ecallg rfl (fun hc=>(Mj_ _ (hl:=by first|omega|exact Tr_ (by assumption)))) rfl ⟨(fun hc=>hc),trivial⟩ rfl rfl fun _=>?_);refine vE 7 rfl (ecallg rfl (fun hc=>(My_ r1.2.1)) rfl ⟨(fun hc=>hc),trivial⟩ rfl rfl fun _=>?_);refine vcallg 8 rfl (by kernel_rfl) rfl (fun hc=>(I9_ _ _)) rfl rfl ⟨(fun hc=>hc),(fun hc=>hc),trivial⟩ rfl fun _=>?_;refine gXy tv88 [9,10,11,12] 12 ?_;refine vcallg 13 rfl (by kernel_rfl) rfl (fun hc=>(I6_ r1.1)) rfl rfl ⟨(fun hc=>hc),trivial⟩ rfl fun _=>?_;refine gXy tv88 [14,15,16,17,18,19] 5 ?_;refine vcallg 20 rfl (by kernel_rfl) rfl (fun hc=>(Jk_ r1.1)) rfl rfl ⟨(fun hc=>hc),trivial⟩ rfl fun _=>?_;refine gXy tv88 [21,22,23,24] 0 ?_;refine vD ?_;refine gx tv88 1 ?_;refine cE e35 (fun h40 e41=>?_) (fun h40 e54=>?_)
    · refine gx tv88 12 ?_;subst e41;exact qr1
    have h42:=orl h40;have h43:=orl h42;have h44:=orl h43;have h45:=Bf_ h44;have h46:=orr h43;have h47:=Bf_ h46;have h48:=orr h42;have h49:=Bf_ h48;have p50:=beqT h49;have h51:=orr h40;have h52:=Bf_ h51;have p53:=beqT h52;refine gx tv88 4 ?_;refine aN [5,6,7,8,9,10] 7 mixd ?_;refine gX tv88 [0,3] 5 ?_;refine vE 1 rfl (eC (Ep_ x) rfl ?_);generalize hr56:K_ x=r2;intro w55;have e57:=e54.trans (Aq_ hr56.symm);have hr56:=hr56.symm
    (try have hA57:=Tr_ (s:=x) (show SOk x _ by assumption);(try rw[<- hr56] at hA57))
    refine vE 2 rfl (eC (Mj_ _ (hl:=by first|omega|exact Tr_ (by assumption))) rfl ?_);generalize hr60:Gg_ r2=r3;intro w59;have e61:=e57.trans (Aq_ hr60.symm);refine vE 4 rfl (eC (My_ x1) rfl ?_);generalize hr63:Gi_ x1=r4;intro w62;have e64:=e61.trans (Aq_ hr63.symm);refine vC 5 rfl (I9_ _ _) rfl fun w65=>?_;refine gX tv88 [6] 0 ?_;refine vD ?_;refine gx tv88 1 ?_;refine cE e64 (fun h66 e68=>?_) (fun h66 e70=>?_)
    · have h67:=Br_ h66;refine gx tv88 12 ?_;subst e68;exact qr1
    have h69:=Bf_ h66;refine gx tv88 2 ?_;refine aN [0,1,5,6,7,8,9,10] 4 mixd ?_;refine gX tv88 [0,1] 2 ?_;refine vE 2 rfl (sA tv88 ?_);refine vT 3 rfl (sA tv88 ?_);refine vD ?_;refine gy tv88 6 ?_;refine next ⟨(k+1),r1.1,r1.2.1⟩ rfl rfl ⟨rfl,trivial⟩ ⟨rfl,rfl,trivial⟩ ?_ ?_
    · (try simp only[]);omega
    exact⟨by (try simp only[]);omega,e70,⟨Ff_ (by assumption) (by omega),Fq_ (by assumption) (by omega),by first|assumption|omega,by first|assumption|omega⟩⟩
  have e72:=C1_ (f:=fun zz=>Bo_ zz x x1) hp25_2 (Gb_ (by omega)) (Bo_.eq_1 _ _);refine gx tv88 8 ?_;refine cV e72 R30_ (Gv_ _ _) rfl fun r5 hr73 e75 w74=>?_
  (try have hA75:=send_len 7 (show SOk x _ by assumption);(try rw[<- hr73] at hA75))
  (try have hA76:=(Ub_ x 7 0).1;(try rw[<- hr73] at hA76))
  refine gm tv88 11 [2] fun B79=>?_;refine cV e75 R31_ (Si_ _ _) rfl fun r6 hr80 e82 w81=>?_;refine gm tv88 11 [3] fun B84=>?_;refine cV e82 R6_ (N8_ _) rfl fun r7 hr85 e87 w86=>?_;have hA87:=X7_ r5.2
  (try rw[<- hr85] at hA87)
  refine gx tv88 11 ?_;refine call (Iv_ _ _) rfl rfl fun w89=>?_;refine gx tv88 4 ?_;subst e87;exact qr1
end Go.SW.V
namespace Go.SW
open Go.ChangeShapes Go.WideShapes Go.ChangeAt Go.RowKit
variable {P:Program}
theorem Tx_ {Ht:Type} {enc:TypeId×Value->Ht} {w:World} {base:Nat} {sp:Nat->Bool} {held:Bool} {fuel:Nat} {t e:TypeId} {n:Nat} {cs:List Value} {zs:List Bs} {p:List MemPlace}
    (ht:P.underlying t=some (.array n e)) (he:P.underlying e=some .string) (hce:P.cellsOf e=1) (hct:P.cellsOf t=n)
    (h:DataW.trod enc P w base sp held fuel t cs=some (.agg (zs.map fun z=> .lit (.string z)),p)):cs=zs.map str:=by
  cases fuel with
  |zero=>simp[DataW.trod] at h
  |succ fuel=>
    simp only[DataW.trod,ht,hce,hct,Nat.mul_one] at h
    split at h
    · rename_i hl
      obtain⟨xs,hm,hx⟩:=Option.map_eq_some_iff.1 h
      have hxs:xs.map (·.1)=zs.map fun z=>(DataW.lit (.string z):DataW Ht):=by
        have :=congrArg Prod.fst hx
        simpa using this
      have hxl:xs.length=n:=by simpa using Lib.mapM_length hm
      have hzl:zs.length=n:=by
        have :=congrArg List.length hxs
        simp at this
        omega
      apply List.ext_getElem?
      intro i
      by_cases hi:i<n
      · obtain⟨b,hb,hf⟩:=Lib.mapM_at hm i i (by simp[hi])
        obtain⟨z,hc,rfl,_⟩:=DataW.trod_string he hf
        have h1:cs[i]? = some (.string z):=by
          have :=congrArg (·[0]?) hc
          simpa [List.getElem?_take,List.getElem?_drop] using this
        have h2:(xs.map (·.1))[i]? = some (DataW.lit (.string z.data.toList):DataW Ht):=by simp[hb]
        rw[hxs] at h2
        simp only[List.getElem?_map,Option.map_eq_some_iff,DataW.lit.injEq,Lit.string.injEq] at h2
        obtain⟨z',hz',rfl⟩:=h2
        rw[h1,List.getElem?_map,hz',Z6_]
        rfl
      · rw[List.getElem?_eq_none (by omega),List.getElem?_eq_none (by simp;omega)]
    · cases h
theorem gstrs_of {w:World} {g n:Nat} {name:String} {zs:List Bs} {rest:List (String×DataW Unit)} {t e:TypeId} (hg:P.globalNamed name=some g) (hty:(P.globals[g]?).map (·.type)=some t) (ht:P.underlying t=some (.array n e)) (he:P.underlying e=some .string) (hce:P.cellsOf e=1) (hct:P.cellsOf t=n)
    (h:laidMet P ((name, .agg (zs.map fun z=> .lit (.string z)))::rest) w):GStrs (hp w) g zs:=by
  obtain⟨ps,⟨g',t',cs,fuel,p,q,hg',ht',hvar,hd,_,_⟩,_⟩:=h
  obtain rfl :=Option.some.inj (hg.symm.trans hg')
  obtain rfl :=Option.some.inj (hty.symm.trans ht')
  have hc:=Tx_ ht he hce hct hd
  obtain rfl :cs=(zs.map str).toArray:=by rw[<- hc]
  unfold World.var? at hvar
  rw[hg] at hvar
  simp only[Option.bind_some] at hvar
  split at hvar
  · rename_i cs T fr hh
    cases hvar
    exact⟨T,fr,hh⟩
  · cases hvar
end Go.SW
namespace Go.SW.V
open Go.SW
theorem same11 (m:Method):Nc_ m m=true:=by simp[Nc_]
theorem tks0:∀ (l out:List TakerS),Dn_ l out=out++l
  |[],out=>by simp[Dn_]
  |x::l,out=>by rw[Dn_,tks0 l];simp
theorem tks_eq (l:List TakerS):Gg_ l=l:=by simp[Gg_,tks0]
theorem Rt_ {a:Act28R} {q:SessR} {e:Int} (all:List Method):∀ (l:List Method) (k:Nat) (x:A_) (n:Nat),all.drop k=l->n+l.length<=1000000000->(∀ m∈l,Qe_ m)->SInv x n ->
    ∃ t,Eb_ a (q,all,e) l k x (toQ x)=(t,toQ t,true)/\SInv t (n+l.length)/\t.feed=x.feed
  |[],k,x,n,_,_,_,h=>⟨x,rfl,h,rfl⟩
  |m::l,k,x,n,hd,hn,hm,h=>by
    simp only[List.length_cons] at hn
    have hk:k<all.length:=by
      by_cases q:k<all.length
      · exact q
      · rw[List.drop_of_length_le (by omega)] at hd;cases hd
    rw[Fr_ hk] at hd
    obtain⟨e1,e2⟩:=List.cons.inj hd
    obtain⟨t,h1,h2⟩:=ask_same (a:=a) (m:=m) (by omega) h (hm m List.mem_cons_self)
    have hf:=(K3_ x (toQ x) m a).1
    rw[h1] at hf
    obtain⟨u,h3,h4,h5⟩:=Rt_ (a:=a) (q:=q) (e:=e) all l (k+1) t (n+1) e2 (by omega) (fun z hz=>hm z (List.mem_cons_of_mem _ hz)) h2
    refine⟨u,?_,Hn_ h4 (by simp;omega),h5.trans hf⟩
    simp only[Eb_,lt,H3_,e1,same11,h1,Bool.not_true,cond_false]
    exact h3
theorem take_same {s:A_} {a:Act28R} {n c:Nat} (h:SInv s n) (hc:s.feed.rest.length<=c) (hck:a.chunk.length<=600) (hn:n+c+600<=1000000000):∃ t,G7_ s (toQ s) a=(t,toQ t,true)/\SInv t (n+c+600)/\t.feed.rest.length<=c+600:=by
  have hl:=Uk_ s a.chunk
  simp only[G7_,lt,take_eq]
  obtain⟨t,h1,h2,h3⟩:=Rt_ (a:=a) (q:=toQ (J_ s a.chunk).1) (e:=(J_ s a.chunk).2.2) (J_ s a.chunk).2.1 (J_ s a.chunk).2.1 0 (J_ s a.chunk).1 n rfl (by omega) (Wj_ s a.chunk) (Wl_ h (S3_ s a.chunk))
  refine⟨t,?_,Hn_ h2 (by omega),by rw[h3];omega⟩
  simp only[decide_true,Bool.not_true,Bool.or_self,cond_false]
  exact h1
theorem tk_q {s:A_} {n:Nat} (h:SInv s n):∀ t∈K_ s,t.queue.length<=40:=by
  have hk:∀ k,k<5->∀ t∈tkL s k,t.queue.length<=40:=by
    intro k hk t ht
    unfold tkL at ht
    cases hb:((A5.get s.slots k).isopen && decide (0<Ar_ (A5.get s.slots k).chan))
    · rw[hb] at ht;simp at ht
    · rw[hb] at ht
      obtain⟨x,hx,rfl⟩:=List.mem_map.1 ht
      exact (h.ch k hk).tkq x hx
  rw[Z4_]
  intro t ht
  simp only[List.mem_append] at ht
  rcases ht with (((ht|ht)|ht)|ht)|ht<;>exact hk _ (by omega) t ht
theorem Xq_ {s:A_} {n:Nat} (t:Int) (h:SInv s n):∀ d∈(Ai_ s t).2,Cq_ d=true:=by
  have hk:∀ k,k<5->∀ d∈bkL s t k,Cq_ d=true:=by
    intro k hk d hd
    unfold bkL at hd
    cases hb:(A5.get s.slots k).isopen
    · rw[hb] at hd;simp at hd
    · rw[hb] at hd
      exact Sa_ t (h.ch k hk).inv d hd
  rw[Qr_]
  intro d hd
  simp only[List.mem_append] at hd
  rcases hd with (((hd|hd)|hd)|hd)|hd<;>exact hk _ (by omega) d hd
theorem sinv_End (s:A_) (t:Int) (n:Nat):SInv (Ai_ s t).1 n:=by
  rw[Qr_]
  have h0:=Rd_ n
  refine⟨fun k hk=>?_,rfl⟩
  match k,hk with
  |0,_=>exact h0
  |1,_=>exact h0
  |2,_=>exact h0
  |3,_=>exact h0
  |4,_=>exact h0
theorem Zq_ {s:A_} {a:Act28R} {n c:Nat} (h:SInv s n) (hc:s.feed.rest.length<=c) (hck:a.chunk.length<=600) (hcc:c<=90000) (hn:n+100000<=1000000000) (hat:0<=a.at_) (hc0:0<=a.m.channel) (hn0:0<=a.m.n) (hk0:0<=a.m.kind) :
    ∃ t,G9_ s (toQ s) a=(t,toQ t,true)/\SInv t (n+100000)/\t.feed.rest.length<=c+600:=by
  have hs:=Hn_ h (show n<=n+100000 by omega)
  simp only[G9_,lt1]
  by_cases h01:a.dow%8=0\/a.dow%8=1
  · have :(bif decide (a.dow%8=0) then decide (a.dow%8=0) else decide (a.dow%8=1))=true:=by
      rcases h01 with e|e<;>simp[e]
    obtain⟨t,h1,h2,h3⟩:=take_same (a:=a) h hc hck (by omega)
    refine⟨t,?_,Hn_ h2 (by omega),h3⟩
    simp only[this,cond_true,lt,h1,lp0]
  have h01':(bif decide (a.dow%8=0) then decide (a.dow%8=0) else decide (a.dow%8=1))=false:=by
    simp only[not_or] at h01;simp[h01.1,h01.2]
  simp only[h01',cond_false]
  by_cases h6:a.dow%8=6
  · simp only[h6,decide_true,cond_true,lt]
    generalize hx:(bif decide (0<((K_ s).length:Int)) then gt (K_ s) (a.at_%((K_ s).length:Int)).toNat else ⟨a.at_,3,[113]⟩)=x
    have hxx:x.queue.length<=40/\0<=x.channel:=by
      rw[<- hx]
      refine An_ (P:=fun x:TakerS=>x.queue.length<=40/\0<=x.channel) (fun hl=>?_) fun _=>⟨by simp,hat⟩
      have hl:0<((K_ s).length:Int):=by simpa using hl
      obtain⟨e1,e2⟩:=emodN a.at_ (K_ s).length
      have e1:=e1 hl
      have e2:=e2 hl
      have hm:=gt_mem (xs:=K_ s) (k:=(a.at_%((K_ s).length:Int)).toNat) (by omega)
      exact⟨tk_q h _ hm,tk_ch _ hm⟩
    simp only[sent_eq,Nf_,rsame,lp0]
    exact⟨_,rfl,Hn_ (V8_ a.item hxx.1 h hxx.2) (by omega),by rw[Nl_];omega⟩
  simp only[h6,decide_false,cond_false]
  by_cases h7:a.dow%8=7
  · have hz:s.slots.e0=Ju_:=h.zo
    simp only[h7,decide_true,cond_true,lt,end_eq a.tick hz,Qq_ (Xq_ a.tick h),Ur_,lp0]
    exact⟨_,rfl,sinv_End s a.tick _,by rw[(Ub_ s a.tick 0).2];omega⟩
  simp only[h7,decide_false,cond_false,lp0,lt,H3_]
  by_cases hg:Db_ a.m=0
  · have hm:Qe_ a.m:=⟨by rw[<- Vn_ hk0];exact hg,hc0,hk0,hn0⟩
    obtain⟨t,h1,h2⟩:=ask_same (a:=a) (by omega) h hm
    have hf:=(K3_ s (toQ s) a.m a).1
    rw[h1] at hf
    simp only[hg,decide_true,Bool.not_true,cond_false,h1]
    exact⟨t,rfl,Hn_ h2 (by omega),by rw[hf];omega⟩
  · simp only[hg,decide_false,Bool.not_false,cond_true]
    exact⟨s,rfl,hs,by omega⟩
theorem plays28:∀ (l:List Act28R) (x:A_) (n c:Nat),SInv x n->x.feed.rest.length<=c->n+100000*l.length<=900000000->c+600*l.length<=90000->(∀ a∈l,a.chunk.length<=600/\PV.wfs (Act28R.pc a))->Bo_ l x (toQ x)=true
  |[],x,n,c,h,_,_,_,_=>by
    have hz:x.slots.e0=Ju_:=h.zo
    simp only[Bo_,lt,end_eq 7 hz,Qq_ (Xq_ 7 h),Ur_,decide_true]
  |a::l,x,n,c,h,hc,hn,hcc,hw=>by
    simp only[List.length_cons,Nat.mul_add,Nat.mul_one] at hn hcc
    generalize hz1:100000*l.length=z1 at hn
    generalize hz2:600*l.length=z2 at hcc
    obtain⟨w1,w2⟩:=hw a List.mem_cons_self
    obtain⟨r1,r2,r3,r4⟩:=act28_r w2
    obtain⟨t,h1,h2,h3⟩:=Zq_ (a:=a) h hc w1 (by omega) (Nat.le_trans (Nat.add_le_add_left (Nat.le_add_left _ z1) n) (Nat.le_trans hn (by decide))) r1 r2 r3 r4
    have hz:t.slots.e0.isopen=false:=by rw[h2.zo]
    have hz':x.slots.e0.isopen=false:=by rw[h.zo]
    simp only[Bo_,lt,h1,tk_eq hz,tk_eq hz',tks_eq,tsame,Bool.not_true,Bool.or_false,Ei_,Et_,show (toQ t).begun=t.begun from rfl,show (toQ t).over=t.over from rfl,beq_self_eq_true,cond_false]
    exact plays28 l t (n+100000) (c+600) h2 h3 (by rw[hz1];omega) (by rw[hz2];omega) fun b hb=>hw b (List.mem_cons_of_mem _ hb)
theorem awake28:Nh_=true:=by decide +kernel
theorem sinv_new (p:Bs) (n:Nat):SInv (E7_ p) n:=by
  have h0:=Rd_ n
  refine⟨fun k hk=>?_,rfl⟩
  match k,hk with
  |0,_=>exact h0
  |1,_=>exact h0
  |2,_=>exact h0
  |3,_=>exact h0
  |4,_=>exact h0
theorem l28_plays (place:Bs) (l:List Act28R) (hw:∀ a∈l,PV.wfs (Act28R.pc a)):Fj_ place l=true:=by
  simp only[Fj_,awake28,Bool.not_true,cond_false,lt]
  refine An_ (P:=fun b=>b=true) (fun _=>rfl) fun h=>?_
  simp only[Bool.or_eq_false_iff,Bool.not_eq_false'] at h
  obtain⟨h1,h2⟩:=l28_ok h.1
  exact plays28 l (E7_ place) 0 0 (sinv_new place 0) (by simp[E7_]) (by omega) (by omega) fun a ha=>⟨(h2 a ha).1,hw a ha⟩
end Go.SW.V
