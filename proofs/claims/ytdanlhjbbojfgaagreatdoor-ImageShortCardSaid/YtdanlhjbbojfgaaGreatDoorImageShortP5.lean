/-
  A part of the proof of ImageShort: The walks of this seat, printed by program: deed.Deed.told, deed.first, deed.Deed.Check.
-/
import Derived.Test.YtdanlhjbbojfgaaGreatDoorProg
import Derived.Test.YtdanlhjbbojfgaaGreatDoorImageShortP2
import Derived.KernelRfl
import Derived.Test.YtdanlhjbbojfgaaGreatDoorImageShortP4
import Derived.Test.YtdanlhjbbojfgaaGreatDoorImageShortP3
import Derived.Test.YtdanlhjbbojfgaaGreatDoorImageShortP1
set_option linter.unusedVariables false
set_option linter.unusedSimpArgs false
set_option maxRecDepth 100000
set_option maxHeartbeats 4000000
namespace Go.SW.V
open Go.SW Go.Proofs
abbrev ty292:TI:=⟨.slc 78,1,24,[.sl i64c []]⟩
def tbv15:Tb:=[(5,ty5),(9,ty9),(22,ty22),(64,ty64),(66,ty66),(67,ty67),(69,ty69),(71,ty71),(73,ty73),(78,ty78),(292,ty292)]
theorem tv15:tbB Tryz.prog tbv15=true:=by kernel_rfl
theorem deed_told (d:DeedR):Fn Tryz.prog gb 107 [.agg (DeedR.pc d)] (.agg (DeedR.pc (Gr_ d))):=by
  refine fC Tryz.func107 tv15 Tryz.ntmps107 fun w N H hG=>?_;refine gm tv15 31 [0,1,2] fun B2=>?_;refine cn rfl (fun p6=>?_) fun p8=>?_
  · refine gm tv15 15 [] fun _=>?_;refine rt1 rfl rfl (ple ?_);have e:Gr_ d=(⟨d.kind,d.tick,d.shop,(⟨[],0,0,[]⟩:QueueR),(⟨[],[],false,[],[],false⟩:BindR),[],0,0,0,0,0,(⟨0,[],[],[],[],0,0⟩:Mail),[]⟩:DeedR):=by
      unfold Gr_
      repeat (first|rw[if_pos (by omega)]|rw[if_neg (by omega)])
      rfl
    rw[e];rfl
  refine gx tv15 6 ?_;refine cn rfl (fun p10=>?_) fun p12=>?_
  · refine gm tv15 15 [] fun _=>?_;refine rt1 rfl rfl (ple ?_);have e:Gr_ d=(⟨d.kind,d.tick,(⟨[],0,[]⟩:ShopR),d.queue,(⟨[],[],false,[],[],false⟩:BindR),[],0,0,0,0,0,(⟨0,[],[],[],[],0,0⟩:Mail),[]⟩:DeedR):=by
      unfold Gr_
      repeat (first|rw[if_pos (by omega)]|rw[if_neg (by omega)])
      rfl
    rw[e];rfl
  refine gx tv15 7 ?_;refine cnd rfl (fun h13=>?_) (fun h13=>?_)
  · have p14:=dt h13;refine gx tv15 2 ?_;refine cndT rfl h13 ?_;refine gm tv15 15 [] fun _=>?_;refine rt1 rfl rfl (ple ?_);have e:Gr_ d=(⟨d.kind,d.tick,(⟨[],0,[]⟩:ShopR),(⟨[],0,0,[]⟩:QueueR),d.bind,[],0,0,0,0,0,(⟨0,[],[],[],[],0,0⟩:Mail),[]⟩:DeedR):=by
      unfold Gr_
      repeat (first|rw[if_pos (by omega)]|rw[if_neg (by omega)])
      rfl
    rw[e];rfl
  have p16:=df h13;refine gx tv15 5 ?_;refine cn rfl (fun p18=>?_) fun p20=>?_
  · refine gm tv15 15 [] fun _=>?_;refine rt1 rfl rfl (ple ?_);have e:Gr_ d=(⟨d.kind,d.tick,(⟨[],0,[]⟩:ShopR),(⟨[],0,0,[]⟩:QueueR),d.bind,[],0,0,0,0,0,(⟨0,[],[],[],[],0,0⟩:Mail),[]⟩:DeedR):=by
      unfold Gr_
      repeat (first|rw[if_pos (by omega)]|rw[if_neg (by omega)])
      rfl
    rw[e];rfl
  refine gx tv15 6 ?_;refine cn rfl (fun p22=>?_) fun p24=>?_
  · refine gm tv15 15 [] fun _=>?_;refine rt1 rfl rfl (ple ?_);have e:Gr_ d=(⟨d.kind,d.tick,(⟨[],0,[]⟩:ShopR),(⟨[],0,0,[]⟩:QueueR),(⟨[],[],false,[],[],false⟩:BindR),[],0,0,0,0,0,d.mail,[]⟩:DeedR):=by
      unfold Gr_
      repeat (first|rw[if_pos (by omega)]|rw[if_neg (by omega)])
      rfl
    rw[e];rfl
  refine gx tv15 7 ?_;refine cnd rfl (fun h25=>?_) (fun h25=>?_)
  · have p26:=dt h25;refine gx tv15 2 ?_;refine cndT rfl h25 ?_;refine gm tv15 15 [] fun _=>?_;refine rt1 rfl rfl (ple ?_);have e:Gr_ d=(⟨d.kind,d.tick,(⟨[],0,[]⟩:ShopR),(⟨[],0,0,[]⟩:QueueR),(⟨[],[],false,[],[],false⟩:BindR),d.name,0,0,0,0,0,(⟨0,[],[],[],[],0,0⟩:Mail),[]⟩:DeedR):=by
      unfold Gr_
      repeat (first|rw[if_pos (by omega)]|rw[if_neg (by omega)])
      rfl
    rw[e];rfl
  have p28:=df h25;refine gx tv15 6 ?_;refine cnd rfl (fun h29=>?_) (fun h29=>?_)
  · have p30:=dt h29;refine gx tv15 2 ?_;refine cndT rfl h29 ?_;refine gm tv15 15 [] fun _=>?_;refine rt1 rfl rfl (ple ?_);have e:Gr_ d=(⟨d.kind,d.tick,(⟨[],0,[]⟩:ShopR),(⟨[],0,0,[]⟩:QueueR),(⟨[],[],false,[],[],false⟩:BindR),d.name,0,0,0,0,0,(⟨0,[],[],[],[],0,0⟩:Mail),[]⟩:DeedR):=by
      unfold Gr_
      repeat (first|rw[if_pos (by omega)]|rw[if_neg (by omega)])
      rfl
    rw[e];rfl
  have p32:=df h29;refine gx tv15 5 ?_;refine cn rfl (fun p34=>?_) fun p36=>?_
  · refine gm tv15 15 [] fun _=>?_;refine rt1 rfl rfl (ple ?_);have e:Gr_ d=(⟨d.kind,d.tick,(⟨[],0,[]⟩:ShopR),(⟨[],0,0,[]⟩:QueueR),(⟨[],[],false,[],[],false⟩:BindR),d.name,0,0,0,0,0,(⟨0,[],[],[],[],0,0⟩:Mail),[]⟩:DeedR):=by
      unfold Gr_
      repeat (first|rw[if_pos (by omega)]|rw[if_neg (by omega)])
      rfl
    rw[e];rfl
  refine gx tv15 6 ?_;refine cn rfl (fun p38=>?_) fun p40=>?_
  · refine aN [2,3,4,5,6,7,8] 12 mixd ?_;refine gX tv15 [0,1,2,3,4,5,6] 5 ?_;refine vE 7 rfl (sO tv15 ?_);refine gX tv15 [8] 3 ?_;refine vE 9 rfl (sO tv15 ?_);refine gX tv15 [10] 1 ?_;refine vT 11 rfl (sO tv15 ?_);refine vD ?_;refine gm tv15 9 [] fun _=>?_;refine rt1 rfl rfl (ple ?_);have e:Gr_ d=(⟨d.kind,d.tick,(⟨[],0,[]⟩:ShopR),(⟨[],0,0,[]⟩:QueueR),(⟨[],[],false,[],[],false⟩:BindR),d.name,d.id,d.how,0,0,0,(⟨0,[],[],[],[],0,0⟩:Mail),[]⟩:DeedR):=by
      unfold Gr_
      repeat (first|rw[if_pos (by omega)]|rw[if_neg (by omega)])
      rfl
    rw[e];rfl
  refine gx tv15 6 ?_;refine cn rfl (fun p42=>?_) fun p44=>?_
  · refine aN [2,3,4,5,6,7,8] 12 mixd ?_;refine gX tv15 [0,1,2,3,4,5,6] 5 ?_;refine vE 7 rfl (sO tv15 ?_);refine gX tv15 [8] 3 ?_;refine vE 9 rfl (sO tv15 ?_);refine gX tv15 [10] 1 ?_;refine vT 11 rfl (sA tv15 ?_);refine vD ?_;refine gm tv15 9 [] fun _=>?_;refine rt1 rfl rfl (ple ?_);have e:Gr_ d=(⟨d.kind,d.tick,(⟨[],0,[]⟩:ShopR),(⟨[],0,0,[]⟩:QueueR),(⟨[],[],false,[],[],false⟩:BindR),[],0,0,d.frm,0,d.number,d.mail,[]⟩:DeedR):=by
      unfold Gr_
      repeat (first|rw[if_pos (by omega)]|rw[if_neg (by omega)])
      rfl
    rw[e];rfl
  refine gx tv15 6 ?_;refine cn rfl (fun p46=>?_) fun p48=>?_
  · refine aN [2,3,4,5,6,7,8] 8 mixd ?_;refine gX tv15 [0,1,2,3,4] 3 ?_;refine vE 5 rfl (sO tv15 ?_);refine gX tv15 [6] 1 ?_;refine vT 7 rfl (sO tv15 ?_);refine vD ?_;refine gm tv15 9 [] fun _=>?_;refine rt1 rfl rfl (ple ?_);have e:Gr_ d=(⟨d.kind,d.tick,(⟨[],0,[]⟩:ShopR),(⟨[],0,0,[]⟩:QueueR),(⟨[],[],false,[],[],false⟩:BindR),[],0,0,0,d.code,0,(⟨0,[],[],[],[],0,0⟩:Mail),d.text⟩:DeedR):=by
      unfold Gr_
      repeat (first|rw[if_pos (by omega)]|rw[if_neg (by omega)])
      rfl
    rw[e];rfl
  refine gm tv15 10 [] fun _=>?_;refine rt1 rfl rfl (ple ?_);have e:Gr_ d=(⟨d.kind,d.tick,(⟨[],0,[]⟩:ShopR),(⟨[],0,0,[]⟩:QueueR),(⟨[],[],false,[],[],false⟩:BindR),[],0,0,0,0,0,(⟨0,[],[],[],[],0,0⟩:Mail),[]⟩:DeedR):=by
    unfold Gr_
    repeat (first|rw[if_pos (by omega)]|rw[if_neg (by omega)])
    rfl
  rw[e];rfl
theorem Kt_ (l:List Int):Fn Tryz.prog gb 108 [.sl i64c l] (.int .i64 (Ir_ l)):=by
  refine fC Tryz.func108 tv15 Tryz.ntmps108 fun w N H hG=>?_;have l_l:l.length<=140737488355328:=w.1.1;refine gx tv15 14 ?_;refine loop (ι:=Nat) [0,5,6] [] (fun k=>[(7, .int .i64 (k:Int))]) (fun k=>[]) (fun k=>k<=l.length/\Ir_ l=Ir_ (l.drop k)) (fun k=>l.length-k) 0 ⟨rfl,trivial⟩ trivial ?_ ?_
  · exact⟨Nat.zero_le _,rfl⟩
  rintro k hp1;obtain⟨hk1,hk2⟩:=hp1;refine gx tv15 6 ?_;refine cn rfl (fun p3=>?_) fun p12=>?_
  · obtain⟨c4,hc5⟩:=getE (xs:=l) (m:=k) (by omega);refine gx tv15 6 ?_;refine q1 (qidx tv15 k rfl rfl rfl hc5 rfl rfl rfl rfl) rfl fun w6=>?_;refine gx tv15 10 ?_;refine cnd rfl (fun h7=>?_) (fun h7=>?_)
    · have h8:=Dk_ h7;have p9:=df h8;refine gx tv15 12 ?_;refine rt1 rfl rfl (ple ?_);refine congrArg (PV.int .i64) ?_
      rw[hk2,Dj_ hc5]
      unfold Ir_
      rw[if_pos (by assumption)]
    have h10:=Ct_ h7;have p11:=dt h10;refine gy tv15 7 ?_;refine next (k+1) rfl rfl ⟨rfl,trivial⟩ trivial ?_ ?_
    · omega
    refine⟨by omega,?_⟩
    rw[hk2,Dj_ hc5]
    conv=>lhs;unfold Ir_
    rw[if_neg (by omega)]
  refine gx tv15 11 ?_;refine rt1 rfl rfl (ple ?_);refine congrArg (PV.int .i64) ?_
  rw[hk2,List.drop_of_length_le (by omega)]
  rfl
theorem S2_ (d:DeedR):Fn Tryz.prog gb 42 [.agg (DeedR.pc d)] (.int .i64 (F4_ d)):=by
  refine fC Tryz.func42 tv15 Tryz.ntmps42 fun w N H hG=>?_;refine gm tv15 16 [0] fun B2=>?_;refine cn rfl (fun p4=>?_) fun p5=>?_
  · refine gx tv15 8 ?_;refine rt1 rfl rfl (ple ?_);refine congrArg (PV.int .i64) ?_
    unfold F4_
    repeat (first|rw[if_pos (by omega)]|rw[if_neg (by omega)]|rw[if_pos (by assumption)]|rw[if_neg (not_not_intro (by assumption))])
    all_goals first|done|rfl
  refine gx tv15 1 ?_;refine aN [1,2,3,4,5,6] 6 mixd ?_;refine gX tv15 [0,1] 4 ?_;refine vE 2 rfl (eC (deed_told _) rfl fun w6=>?_);refine vC 3 rfl (deed_Same _ _) rfl fun w7=>?_;refine gX tv15 [4,5] 0 ?_;refine vD ?_;refine gx tv15 1 ?_;refine cnd rfl (fun h8=>?_) (fun h8=>?_)
  · have h9:=Dk_ h8;have p10:=df h9;refine gx tv15 8 ?_;refine rt1 rfl rfl (ple ?_);refine congrArg (PV.int .i64) ?_
    unfold F4_
    repeat (first|rw[if_pos (by omega)]|rw[if_neg (by omega)]|rw[if_pos (by assumption)]|rw[if_neg (not_not_intro (by assumption))])
    all_goals first|done|rfl
  have h11:=Ct_ h8;have p12:=dt h11;refine gx tv15 17 ?_;refine cn rfl (fun p14=>?_) fun p20=>?_
  · refine gx tv15 1 ?_;refine aN [1,2,3,4,5,6] 16 mixd ?_;refine gX tv15 [0,1,2] 13 ?_;refine vC 3 rfl (Dq_ _) rfl fun w15=>?_;refine gX tv15 [4,5,6,7] 8 ?_;refine vC 8 rfl (Ks_ _ _) rfl fun w16=>?_;refine gX tv15 [9,10,11] 4 ?_;refine vC 12 rfl (S3_ _) rfl fun w17=>?_;have :=Om_ d.shop.to';refine vE 13 rfl (bsl 1 i64c [En_ d.shop.name,Hf_ (decide (4<d.shop.sort)) 8,Ls_ d.shop.to'] tv15 rfl rfl rfl rfl rfl (fun _=>rfl) rfl (by decide) (by decide) rfl fun u18=>?_);refine vE 14 rfl (calll 1 rfl (Kt_ _) rfl rfl rfl fun w19=>?_);refine gX tv15 [15] 0 ?_;refine vD ?_;refine gx tv15 4 ?_;refine rt1 rfl rfl (ple ?_);refine congrArg (PV.int .i64) ?_
    unfold F4_
    repeat (first|rw[if_pos (by omega)]|rw[if_neg (by omega)]|rw[if_pos (by assumption)]|rw[if_neg (not_not_intro (by assumption))])
    all_goals first|done|rfl
  refine gx tv15 6 ?_;refine cn rfl (fun p22=>?_) fun p27=>?_
  · refine gx tv15 1 ?_;refine aN [1,2,3,4,5,6] 11 mixd ?_;refine gX tv15 [0,1,2] 8 ?_;refine vC 3 rfl (Dq_ _) rfl fun w23=>?_;refine gX tv15 [4,5,6] 4 ?_;refine vC 7 rfl (S3_ _) rfl fun w24=>?_;have :=Om_ d.queue.dead;refine vE 8 rfl (bsl 1 i64c [En_ d.queue.name,Ls_ d.queue.dead] tv15 rfl rfl rfl rfl rfl (fun _=>rfl) rfl (by decide) (by decide) rfl fun u25=>?_);refine vE 9 rfl (calll 1 rfl (Kt_ _) rfl rfl rfl fun w26=>?_);refine gX tv15 [10] 0 ?_;refine vD ?_;refine gx tv15 4 ?_;refine rt1 rfl rfl (ple ?_);refine congrArg (PV.int .i64) ?_
    unfold F4_
    repeat (first|rw[if_pos (by omega)]|rw[if_neg (by omega)]|rw[if_pos (by assumption)]|rw[if_neg (not_not_intro (by assumption))])
    all_goals first|done|rfl
  refine gx tv15 7 ?_;refine cnd rfl (fun h28=>?_) (fun h28=>?_)
  · have p29:=dt h28;refine gx tv15 2 ?_;refine cndT rfl h28 ?_;refine gm tv15 9 [1] fun B31=>?_;refine aN [2,3,4,5,6,7] 17 mixd ?_;refine gX tv15 [0,1] 15 ?_;refine vC 2 rfl (Dq_ _) rfl fun w32=>?_;refine gX tv15 [3,4] 12 ?_;refine vC 5 rfl (Dq_ _) rfl fun w33=>?_;refine gX tv15 [6,7,8,9] 7 ?_;refine vC 10 rfl (Ks_ _ _) rfl fun w34=>?_;refine gX tv15 [11,12] 4 ?_;refine vC 13 rfl (Jm_ _) rfl fun w35=>?_;refine vE 14 rfl (bsl 2 i64c [En_ d.bind.shop,En_ d.bind.to',Hf_ (decide (64<(d.bind.key.length:Int))) 5,Fu_ d.bind.want] tv15 rfl rfl rfl rfl rfl (fun _=>rfl) rfl (by decide) (by decide) rfl fun u36=>?_);refine vE 15 rfl (calll 2 rfl (Kt_ _) rfl rfl rfl fun w37=>?_);refine gX tv15 [16] 0 ?_;refine vD ?_;refine gx tv15 4 ?_;refine rt1 rfl rfl (ple ?_);refine congrArg (PV.int .i64) ?_
    unfold F4_
    repeat (first|rw[if_pos (by omega)]|rw[if_neg (by omega)]|rw[if_pos (by assumption)]|rw[if_neg (not_not_intro (by assumption))])
    all_goals first|done|rfl
  have p38:=df h28;refine gx tv15 5 ?_;refine cn rfl (fun p40=>?_) fun p49=>?_
  · refine gm tv15 9 [1] fun B42=>?_;refine aN [2,3,4,5,6,7] 17 mixd ?_;refine gX tv15 [0,1] 15 ?_;refine vC 2 rfl (Dq_ _) rfl fun w43=>?_;refine gX tv15 [3,4] 12 ?_;refine vC 5 rfl (Dq_ _) rfl fun w44=>?_;refine gX tv15 [6,7,8,9] 7 ?_;refine vC 10 rfl (Ks_ _ _) rfl fun w45=>?_;refine gX tv15 [11,12] 4 ?_;refine vC 13 rfl (Jm_ _) rfl fun w46=>?_;refine vE 14 rfl (bsl 2 i64c [En_ d.bind.shop,En_ d.bind.to',Hf_ (decide (64<(d.bind.key.length:Int))) 5,Fu_ d.bind.want] tv15 rfl rfl rfl rfl rfl (fun _=>rfl) rfl (by decide) (by decide) rfl fun u47=>?_);refine vE 15 rfl (calll 2 rfl (Kt_ _) rfl rfl rfl fun w48=>?_);refine gX tv15 [16] 0 ?_;refine vD ?_;refine gx tv15 4 ?_;refine rt1 rfl rfl (ple ?_);refine congrArg (PV.int .i64) ?_
    unfold F4_
    repeat (first|rw[if_pos (by omega)]|rw[if_neg (by omega)]|rw[if_pos (by assumption)]|rw[if_neg (not_not_intro (by assumption))])
    all_goals first|done|rfl
  refine gx tv15 7 ?_;refine cnd rfl (fun h50=>?_) (fun h50=>?_)
  · have p51:=dt h50;refine gx tv15 2 ?_;refine cndT rfl h50 ?_;refine gx tv15 4 ?_;refine call (Ii_ _) rfl rfl fun w52=>?_;have :=L8_ d.mail;have hmo52:=fun h=>G6_ (m:=d.mail) h;refine gx tv15 6 ?_;refine rt1 rfl rfl (ple ?_);refine congrArg (PV.int .i64) ?_
    unfold F4_
    repeat (first|rw[if_pos (by omega)]|rw[if_neg (by omega)]|rw[if_pos (by assumption)]|rw[if_neg (not_not_intro (by assumption))])
    all_goals first|done|rfl
  have p53:=df h50;refine gx tv15 5 ?_;refine cn rfl (fun p55=>?_) fun p57=>?_
  · refine gx tv15 4 ?_;refine call (Ii_ _) rfl rfl fun w56=>?_;have :=L8_ d.mail;have hmo56:=fun h=>G6_ (m:=d.mail) h;refine gx tv15 6 ?_;refine rt1 rfl rfl (ple ?_);refine congrArg (PV.int .i64) ?_
    unfold F4_
    repeat (first|rw[if_pos (by omega)]|rw[if_neg (by omega)]|rw[if_pos (by assumption)]|rw[if_neg (not_not_intro (by assumption))])
    all_goals first|done|rfl
  refine gx tv15 7 ?_;refine cnd rfl (fun h58=>?_) (fun h58=>?_)
  · have p59:=dt h58;refine gx tv15 2 ?_;refine cndT rfl h58 ?_;refine gx tv15 8 ?_;refine rt1 rfl rfl (ple ?_);refine congrArg (PV.int .i64) ?_
    unfold F4_
    repeat (first|rw[if_pos (by omega)]|rw[if_neg (by omega)]|rw[if_pos (by assumption)]|rw[if_neg (not_not_intro (by assumption))])
    all_goals first|done|rfl
  have p60:=df h58;refine gx tv15 5 ?_;refine cn rfl (fun p62=>?_) fun p63=>?_
  · refine gx tv15 8 ?_;refine rt1 rfl rfl (ple ?_);refine congrArg (PV.int .i64) ?_
    unfold F4_
    repeat (first|rw[if_pos (by omega)]|rw[if_neg (by omega)]|rw[if_pos (by assumption)]|rw[if_neg (not_not_intro (by assumption))])
    all_goals first|done|rfl
  refine gx tv15 6 ?_;refine cn rfl (fun p65=>?_) fun p67=>?_
  · refine gx tv15 6 ?_;refine call (Ks_ _ _) rfl rfl fun w66=>?_;refine gx tv15 6 ?_;refine rt1 rfl rfl (ple ?_);refine congrArg (PV.int .i64) ?_
    unfold F4_
    repeat (first|rw[if_pos (by omega)]|rw[if_neg (by omega)]|rw[if_pos (by assumption)]|rw[if_neg (not_not_intro (by assumption))])
    all_goals first|done|rfl
  refine gx tv15 4 ?_;refine aN [1,2,3,4,5,6] 10 mixd ?_;refine gX tv15 [0,1] 8 ?_;refine vC 2 rfl (Dq_ _) rfl fun w68=>?_;refine gX tv15 [3,4,5] 4 ?_;refine vC 6 rfl (Ks_ _ _) rfl fun w69=>?_;refine vE 7 rfl (bsl 1 i64c [En_ d.name,Hf_ (decide (2<d.how)) 7] tv15 rfl rfl rfl rfl rfl (fun _=>rfl) rfl (by decide) (by decide) rfl fun u70=>?_);refine vE 8 rfl (calll 1 rfl (Kt_ _) rfl rfl rfl fun w71=>?_);refine gX tv15 [9] 0 ?_;refine vD ?_;refine gx tv15 2 ?_;refine rt1 rfl rfl (ple ?_);refine congrArg (PV.int .i64) ?_
  unfold F4_
  repeat (first|rw[if_pos (by omega)]|rw[if_neg (by omega)]|rw[if_pos (by assumption)]|rw[if_neg (not_not_intro (by assumption))])
  all_goals first|done|rfl
def tbv16:Tb:=[(4,ty4),(5,ty5),(9,ty9),(22,ty22),(64,ty64),(66,ty66),(67,ty67),(69,ty69),(71,ty71),(73,ty73),(169,X3_)]
theorem tv16:tbB Tryz.prog tbv16=true:=by kernel_rfl
theorem deed_Bytes (d:DeedR):Fn Tryz.prog gb 284 [.agg (DeedR.pc d)] (.tup [.str (A5_ d), .int .i64 (F4_ d)]):=by
  refine fC Tryz.func284 tv16 Tryz.ntmps284 fun w N H hG=>?_;have d_w:=DeedR.pwf w.1;have d_w':=d_w
  simp only[DeedR.wf,ShopR.wf,QueueR.wf,BindR.wf,Mail.wf] at d_w'
  have d_bind_want_k:=DeedR.kd13 w.1;have d_bind_want_k2:d.bind.want.length<=140737488355328:=w.1.2.2.2.2.2.2.2.2.2.2.2.2.2.1.1;have d_mail_head_k:=DeedR.kd24 w.1;have d_mail_head_k2:d.mail.head.length<=140737488355328:=w.1.2.2.2.2.2.2.2.2.2.2.2.2.2.2.2.2.2.2.2.2.2.2.2.2.1.1;refine gm tv16 11 [0] fun B2=>?_;refine call (S2_ _) rfl rfl fun w3=>?_;have :=Yi_ d;refine gx tv16 9 ?_;refine cnd rfl (fun h4=>?_) (fun h4=>?_)
  · have h5:=Dk_ h4;have p6:=df h5;refine gx tv16 9 ?_;refine rt2 rfl rfl ?_;refine ple ?_;have e:A5_ d=[]:=by
      unfold A5_
      first
        |(rw[if_neg (by assumption)];done)
        |(rw[if_pos (by assumption)];unfold Hc_;(repeat (first|rw[if_pos (by omega)]|rw[if_neg (by omega)]|rw[if_pos (by assumption)]|rw[if_neg (by assumption)]|rw[if_neg (not_not_intro (by assumption))]));first|done|rfl)
    rw[e]
    try (rw[show F4_ d=0 by assumption])
  have h7:=Ct_ h4;have p8:=dt h7;have hdk:=T5_ (d:=d) (by omega) p8;obtain⟨dk1,dk2,dk3,dk4,dk5,dk6,dk7,dk8,dk9,dk10,dk11,dk12,dk13,dk14,dk15,dk16,dk17,dk18,dk19⟩:=hdk;refine gx tv16 3 ?_;refine aN [1,2,3,4,5,6] 10 mixd ?_;refine gX tv16 [0,1,2,3] 6 ?_;refine vC 4 rfl (out_Num (⟨[],0⟩:Out) _ _ (by ((try have :=hrl (by assumption));first|omega|(simp[B_,W_,Q_,numK]<;>omega)))) rfl fun w9=>?_;have nl0:(⟨[],0⟩:Out).s.length=0:=rfl;have :=F_ (⟨[],0⟩:Out) d.kind 1;refine gX tv16 [5,6] 3 ?_;refine vC 7 rfl (out_Num _ _ _ (by ((try have :=hrl (by assumption));first|omega|(simp[B_,W_,Q_,numK]<;>omega)))) rfl fun w10=>?_;have :=F_ (B_ (⟨[],0⟩:Out) d.kind 1) d.tick 8;refine vE 8 rfl (aL tv16 1 fun b11=>?_);refine vT 9 rfl (sA tv16 ?_);refine vD ?_;refine gx tv16 5 ?_;refine call (K2_ _) rfl rfl fun w12=>?_;have :=Ex_ d.mail;refine gx tv16 21 ?_;refine cn rfl (fun p14=>?_) fun p19=>?_
  · refine aN [2,3,4,5,6,7] 15 mixd ?_;refine gX tv16 [0,1,2,3] 11 ?_;refine vC 4 rfl (Ck_ _ _) rfl fun w15=>?_;have :=U_ (B_ (B_ (⟨[],0⟩:Out) d.kind 1) d.tick 8) d.shop.name;refine gX tv16 [5,6,7,8] 6 ?_;refine vC 9 rfl (out_Num _ _ _ (by ((try have :=hrl (by assumption));first|omega|(simp[B_,W_,Q_,numK]<;>omega)))) rfl fun w16=>?_;have :=F_ (D_ (B_ (B_ (⟨[],0⟩:Out) d.kind 1) d.tick 8) d.shop.name) d.shop.sort 1;refine gX tv16 [10,11,12] 2 ?_;refine vC 13 rfl (Ck_ _ _) rfl fun w17=>?_;have :=U_ (B_ (D_ (B_ (B_ (⟨[],0⟩:Out) d.kind 1) d.tick 8) d.shop.name) d.shop.sort 1) d.shop.to';refine vT 14 rfl (sA tv16 ?_);refine vD ?_;refine gx tv16 5 ?_;refine call (Cf_ _) rfl rfl fun w18=>?_;refine gx tv16 5 ?_;refine rt2 rfl rfl ?_;refine ple ?_;have e:A5_ d=(D_ (B_ (D_ (B_ (B_ (⟨[],0⟩:Out) d.kind 1) d.tick 8) d.shop.name) d.shop.sort 1) d.shop.to').s:=by
      unfold A5_
      first
        |(rw[if_neg (by assumption)];done)
        |(rw[if_pos (by assumption)];unfold Hc_;(repeat (first|rw[if_pos (by omega)]|rw[if_neg (by omega)]|rw[if_pos (by assumption)]|rw[if_neg (by assumption)]|rw[if_neg (not_not_intro (by assumption))]));first|done|rfl)
    rw[e]
    try (rw[show F4_ d=0 by assumption])
  refine gx tv16 6 ?_;refine cn rfl (fun p21=>?_) fun p27=>?_
  · refine aN [2,3,4,5,6,7] 18 mixd ?_;refine gX tv16 [0,1,2,3] 14 ?_;refine vC 4 rfl (Ck_ _ _) rfl fun w22=>?_;have :=U_ (B_ (B_ (⟨[],0⟩:Out) d.kind 1) d.tick 8) d.queue.name;refine gX tv16 [5,6,7] 10 ?_;refine vC 8 rfl (out_Num _ _ _ (by ((try have :=hrl (by assumption));first|omega|(simp[B_,W_,Q_,numK]<;>omega)))) rfl fun w23=>?_;have :=F_ (D_ (B_ (B_ (⟨[],0⟩:Out) d.kind 1) d.tick 8) d.queue.name) d.queue.most 8;refine gX tv16 [9,10,11] 6 ?_;refine vC 12 rfl (out_Num _ _ _ (by ((try have :=hrl (by assumption));first|omega|(simp[B_,W_,Q_,numK]<;>omega)))) rfl fun w24=>?_;have :=F_ (B_ (D_ (B_ (B_ (⟨[],0⟩:Out) d.kind 1) d.tick 8) d.queue.name) d.queue.most 8) d.queue.life 8;refine gX tv16 [13,14,15] 2 ?_;refine vC 16 rfl (Ck_ _ _) rfl fun w25=>?_;have :=U_ (B_ (B_ (D_ (B_ (B_ (⟨[],0⟩:Out) d.kind 1) d.tick 8) d.queue.name) d.queue.most 8) d.queue.life 8) d.queue.dead;refine vT 17 rfl (sA tv16 ?_);refine vD ?_;refine gx tv16 5 ?_;refine call (Cf_ _) rfl rfl fun w26=>?_;refine gx tv16 5 ?_;refine rt2 rfl rfl ?_;refine ple ?_;have e:A5_ d=(D_ (B_ (B_ (D_ (B_ (B_ (⟨[],0⟩:Out) d.kind 1) d.tick 8) d.queue.name) d.queue.most 8) d.queue.life 8) d.queue.dead).s:=by
      unfold A5_
      first
        |(rw[if_neg (by assumption)];done)
        |(rw[if_pos (by assumption)];unfold Hc_;(repeat (first|rw[if_pos (by omega)]|rw[if_neg (by omega)]|rw[if_pos (by assumption)]|rw[if_neg (by assumption)]|rw[if_neg (not_not_intro (by assumption))]));first|done|rfl)
    rw[e]
    try (rw[show F4_ d=0 by assumption])
  refine gx tv16 7 ?_;refine cnd rfl (fun h28=>?_) (fun h28=>?_)
  · have p29:=dt h28;refine gx tv16 2 ?_;refine cndT rfl h28 ?_;refine gm tv16 12 [2] fun B31=>?_;refine call (Kv_ _) rfl rfl fun w32=>?_;have :=Fm_ d.bind.want;refine gx tv16 7 ?_;refine aN [3,4,5,6,7,8] 21 mixd ?_;refine gX tv16 [0,1,2] 18 ?_;refine vC 3 rfl (Ck_ _ _) rfl fun w33=>?_;have :=U_ (B_ (B_ (⟨[],0⟩:Out) d.kind 1) d.tick 8) d.bind.shop;refine gX tv16 [4,5] 15 ?_;refine vC 6 rfl (Ck_ _ _) rfl fun w34=>?_;have :=U_ (D_ (B_ (B_ (⟨[],0⟩:Out) d.kind 1) d.tick 8) d.bind.shop) d.bind.to';refine gX tv16 [7,8] 12 ?_;refine vC 9 rfl (P2_ _) rfl fun w35=>?_;refine vC 10 rfl (out_Num _ _ _ (by ((try have :=hrl (by assumption));first|omega|(simp[B_,W_,Q_,numK]<;>omega)))) rfl fun w36=>?_;have :=F_ (D_ (D_ (B_ (B_ (⟨[],0⟩:Out) d.kind 1) d.tick 8) d.bind.shop) d.bind.to') (bitN d.bind.up) 1;refine gX tv16 [11,12] 8 ?_;refine vC 13 rfl (Ck_ _ _) rfl fun w37=>?_;have :=U_ (B_ (D_ (D_ (B_ (B_ (⟨[],0⟩:Out) d.kind 1) d.tick 8) d.bind.shop) d.bind.to') (bitN d.bind.up) 1) d.bind.key;refine gX tv16 [14] 6 ?_;refine vC 15 rfl (Ik_ _ _) rfl fun w38=>?_;have :=C3_ (D_ (B_ (D_ (D_ (B_ (B_ (⟨[],0⟩:Out) d.kind 1) d.tick 8) d.bind.shop) d.bind.to') (bitN d.bind.up) 1) d.bind.key) (Ax_ d.bind.want);refine gX tv16 [16,17] 3 ?_;refine vC 18 rfl (P2_ _) rfl fun w39=>?_;refine vC 19 rfl (out_Num _ _ _ (by ((try have :=hrl (by assumption));first|omega|(simp[B_,W_,Q_,numK]<;>omega)))) rfl fun w40=>?_;have :=F_ (W_ (D_ (B_ (D_ (D_ (B_ (B_ (⟨[],0⟩:Out) d.kind 1) d.tick 8) d.bind.shop) d.bind.to') (bitN d.bind.up) 1) d.bind.key) (Ax_ d.bind.want)) (bitN d.bind.all) 1;refine vT 20 rfl (sA tv16 ?_);refine vD ?_;refine gx tv16 5 ?_;refine call (Cf_ _) rfl rfl fun w41=>?_;refine gx tv16 5 ?_;refine rt2 rfl rfl ?_;refine ple ?_;have e:A5_ d=(B_ (W_ (D_ (B_ (D_ (D_ (B_ (B_ (⟨[],0⟩:Out) d.kind 1) d.tick 8) d.bind.shop) d.bind.to') (bitN d.bind.up) 1) d.bind.key) (Ax_ d.bind.want)) (bitN d.bind.all) 1).s:=by
      unfold A5_
      first
        |(rw[if_neg (by assumption)];done)
        |(rw[if_pos (by assumption)];unfold Hc_;(repeat (first|rw[if_pos (by omega)]|rw[if_neg (by omega)]|rw[if_pos (by assumption)]|rw[if_neg (by assumption)]|rw[if_neg (not_not_intro (by assumption))]));first|done|rfl)
    rw[e]
    try (rw[show F4_ d=0 by assumption])
  have p42:=df h28;refine gx tv16 5 ?_;refine cn rfl (fun p44=>?_) fun p57=>?_
  · refine gm tv16 12 [2] fun B46=>?_;refine call (Kv_ _) rfl rfl fun w47=>?_;have :=Fm_ d.bind.want;refine gx tv16 7 ?_;refine aN [3,4,5,6,7,8] 21 mixd ?_;refine gX tv16 [0,1,2] 18 ?_;refine vC 3 rfl (Ck_ _ _) rfl fun w48=>?_;have :=U_ (B_ (B_ (⟨[],0⟩:Out) d.kind 1) d.tick 8) d.bind.shop;refine gX tv16 [4,5] 15 ?_;refine vC 6 rfl (Ck_ _ _) rfl fun w49=>?_;have :=U_ (D_ (B_ (B_ (⟨[],0⟩:Out) d.kind 1) d.tick 8) d.bind.shop) d.bind.to';refine gX tv16 [7,8] 12 ?_;refine vC 9 rfl (P2_ _) rfl fun w50=>?_;refine vC 10 rfl (out_Num _ _ _ (by ((try have :=hrl (by assumption));first|omega|(simp[B_,W_,Q_,numK]<;>omega)))) rfl fun w51=>?_;have :=F_ (D_ (D_ (B_ (B_ (⟨[],0⟩:Out) d.kind 1) d.tick 8) d.bind.shop) d.bind.to') (bitN d.bind.up) 1;refine gX tv16 [11,12] 8 ?_;refine vC 13 rfl (Ck_ _ _) rfl fun w52=>?_;have :=U_ (B_ (D_ (D_ (B_ (B_ (⟨[],0⟩:Out) d.kind 1) d.tick 8) d.bind.shop) d.bind.to') (bitN d.bind.up) 1) d.bind.key;refine gX tv16 [14] 6 ?_;refine vC 15 rfl (Ik_ _ _) rfl fun w53=>?_;have :=C3_ (D_ (B_ (D_ (D_ (B_ (B_ (⟨[],0⟩:Out) d.kind 1) d.tick 8) d.bind.shop) d.bind.to') (bitN d.bind.up) 1) d.bind.key) (Ax_ d.bind.want);refine gX tv16 [16,17] 3 ?_;refine vC 18 rfl (P2_ _) rfl fun w54=>?_;refine vC 19 rfl (out_Num _ _ _ (by ((try have :=hrl (by assumption));first|omega|(simp[B_,W_,Q_,numK]<;>omega)))) rfl fun w55=>?_;have :=F_ (W_ (D_ (B_ (D_ (D_ (B_ (B_ (⟨[],0⟩:Out) d.kind 1) d.tick 8) d.bind.shop) d.bind.to') (bitN d.bind.up) 1) d.bind.key) (Ax_ d.bind.want)) (bitN d.bind.all) 1;refine vT 20 rfl (sA tv16 ?_);refine vD ?_;refine gx tv16 5 ?_;refine call (Cf_ _) rfl rfl fun w56=>?_;refine gx tv16 5 ?_;refine rt2 rfl rfl ?_;refine ple ?_;have e:A5_ d=(B_ (W_ (D_ (B_ (D_ (D_ (B_ (B_ (⟨[],0⟩:Out) d.kind 1) d.tick 8) d.bind.shop) d.bind.to') (bitN d.bind.up) 1) d.bind.key) (Ax_ d.bind.want)) (bitN d.bind.all) 1).s:=by
      unfold A5_
      first
        |(rw[if_neg (by assumption)];done)
        |(rw[if_pos (by assumption)];unfold Hc_;(repeat (first|rw[if_pos (by omega)]|rw[if_neg (by omega)]|rw[if_pos (by assumption)]|rw[if_neg (by assumption)]|rw[if_neg (not_not_intro (by assumption))]));first|done|rfl)
    rw[e]
    try (rw[show F4_ d=0 by assumption])
  refine gx tv16 6 ?_;refine cn rfl (fun p59=>?_) fun p63=>?_
  · refine gx tv16 3 ?_;refine call (Ik_ _ _) rfl rfl fun w60=>?_;have :=C3_ (B_ (B_ (⟨[],0⟩:Out) d.kind 1) d.tick 8) (B3_ d.mail);refine gm tv16 7 [] fun _=>?_;refine call (Cf_ _) rfl rfl fun w62=>?_;refine gx tv16 5 ?_;refine rt2 rfl rfl ?_;refine ple ?_;have e:A5_ d=(W_ (B_ (B_ (⟨[],0⟩:Out) d.kind 1) d.tick 8) (B3_ d.mail)).s:=by
      unfold A5_
      first
        |(rw[if_neg (by assumption)];done)
        |(rw[if_pos (by assumption)];unfold Hc_;(repeat (first|rw[if_pos (by omega)]|rw[if_neg (by omega)]|rw[if_pos (by assumption)]|rw[if_neg (by assumption)]|rw[if_neg (not_not_intro (by assumption))]));first|done|rfl)
    rw[e]
    try (rw[show F4_ d=0 by assumption])
  refine gx tv16 7 ?_;refine cnd rfl (fun h64=>?_) (fun h64=>?_)
  · have p65:=dt h64;refine gx tv16 2 ?_;refine cndT rfl h64 ?_;refine gx tv16 4 ?_;refine call (Ck_ _ _) rfl rfl fun w66=>?_;have :=U_ (B_ (B_ (⟨[],0⟩:Out) d.kind 1) d.tick 8) d.name;refine gm tv16 7 [] fun _=>?_;refine call (Cf_ _) rfl rfl fun w68=>?_;refine gx tv16 5 ?_;refine rt2 rfl rfl ?_;refine ple ?_;have e:A5_ d=(D_ (B_ (B_ (⟨[],0⟩:Out) d.kind 1) d.tick 8) d.name).s:=by
      unfold A5_
      first
        |(rw[if_neg (by assumption)];done)
        |(rw[if_pos (by assumption)];unfold Hc_;(repeat (first|rw[if_pos (by omega)]|rw[if_neg (by omega)]|rw[if_pos (by assumption)]|rw[if_neg (by assumption)]|rw[if_neg (not_not_intro (by assumption))]));first|done|rfl)
    rw[e]
    try (rw[show F4_ d=0 by assumption])
  have p69:=df h64;refine gx tv16 6 ?_;refine cnd rfl (fun h70=>?_) (fun h70=>?_)
  · have p71:=dt h70;refine gx tv16 2 ?_;refine cndT rfl h70 ?_;refine gx tv16 4 ?_;refine call (Ck_ _ _) rfl rfl fun w72=>?_;have :=U_ (B_ (B_ (⟨[],0⟩:Out) d.kind 1) d.tick 8) d.name;refine gm tv16 7 [] fun _=>?_;refine call (Cf_ _) rfl rfl fun w74=>?_;refine gx tv16 5 ?_;refine rt2 rfl rfl ?_;refine ple ?_;have e:A5_ d=(D_ (B_ (B_ (⟨[],0⟩:Out) d.kind 1) d.tick 8) d.name).s:=by
      unfold A5_
      first
        |(rw[if_neg (by assumption)];done)
        |(rw[if_pos (by assumption)];unfold Hc_;(repeat (first|rw[if_pos (by omega)]|rw[if_neg (by omega)]|rw[if_pos (by assumption)]|rw[if_neg (by assumption)]|rw[if_neg (not_not_intro (by assumption))]));first|done|rfl)
    rw[e]
    try (rw[show F4_ d=0 by assumption])
  have p75:=df h70;refine gx tv16 5 ?_;refine cn rfl (fun p77=>?_) fun p81=>?_
  · refine gx tv16 4 ?_;refine call (Ck_ _ _) rfl rfl fun w78=>?_;have :=U_ (B_ (B_ (⟨[],0⟩:Out) d.kind 1) d.tick 8) d.name;refine gm tv16 7 [] fun _=>?_;refine call (Cf_ _) rfl rfl fun w80=>?_;refine gx tv16 5 ?_;refine rt2 rfl rfl ?_;refine ple ?_;have e:A5_ d=(D_ (B_ (B_ (⟨[],0⟩:Out) d.kind 1) d.tick 8) d.name).s:=by
      unfold A5_
      first
        |(rw[if_neg (by assumption)];done)
        |(rw[if_pos (by assumption)];unfold Hc_;(repeat (first|rw[if_pos (by omega)]|rw[if_neg (by omega)]|rw[if_pos (by assumption)]|rw[if_neg (by assumption)]|rw[if_neg (not_not_intro (by assumption))]));first|done|rfl)
    rw[e]
    try (rw[show F4_ d=0 by assumption])
  refine gx tv16 6 ?_;refine cn rfl (fun p83=>?_) fun p88=>?_
  · refine aN [2,3,4,5,6,7] 12 mixd ?_;refine gX tv16 [0,1,2] 9 ?_;refine vC 3 rfl (Ck_ _ _) rfl fun w84=>?_;have :=U_ (B_ (B_ (⟨[],0⟩:Out) d.kind 1) d.tick 8) d.name;refine gX tv16 [4,5] 6 ?_;refine vC 6 rfl (out_Num _ _ _ (by ((try have :=hrl (by assumption));first|omega|(simp[B_,W_,Q_,numK]<;>omega)))) rfl fun w85=>?_;have :=F_ (D_ (B_ (B_ (⟨[],0⟩:Out) d.kind 1) d.tick 8) d.name) d.id 8;refine gX tv16 [7,8,9] 2 ?_;refine vC 10 rfl (out_Num _ _ _ (by ((try have :=hrl (by assumption));first|omega|(simp[B_,W_,Q_,numK]<;>omega)))) rfl fun w86=>?_;have :=F_ (B_ (D_ (B_ (B_ (⟨[],0⟩:Out) d.kind 1) d.tick 8) d.name) d.id 8) d.how 1;refine vT 11 rfl (sA tv16 ?_);refine vD ?_;refine gx tv16 5 ?_;refine call (Cf_ _) rfl rfl fun w87=>?_;refine gx tv16 5 ?_;refine rt2 rfl rfl ?_;refine ple ?_;have e:A5_ d=(B_ (B_ (D_ (B_ (B_ (⟨[],0⟩:Out) d.kind 1) d.tick 8) d.name) d.id 8) d.how 1).s:=by
      unfold A5_
      first
        |(rw[if_neg (by assumption)];done)
        |(rw[if_pos (by assumption)];unfold Hc_;(repeat (first|rw[if_pos (by omega)]|rw[if_neg (by omega)]|rw[if_pos (by assumption)]|rw[if_neg (by assumption)]|rw[if_neg (not_not_intro (by assumption))]));first|done|rfl)
    rw[e]
    try (rw[show F4_ d=0 by assumption])
  refine gx tv16 6 ?_;refine cn rfl (fun p90=>?_) fun p95=>?_
  · refine aN [2,3,4,5,6,7] 11 mixd ?_;refine gX tv16 [0,1,2,3] 7 ?_;refine vC 4 rfl (out_Num _ _ _ (by ((try have :=hrl (by assumption));first|omega|(simp[B_,W_,Q_,numK]<;>omega)))) rfl fun w91=>?_;have :=F_ (B_ (B_ (⟨[],0⟩:Out) d.kind 1) d.tick 8) d.frm 1;refine gX tv16 [5,6] 4 ?_;refine vC 7 rfl (out_Num _ _ _ (by ((try have :=hrl (by assumption));first|omega|(simp[B_,W_,Q_,numK]<;>omega)))) rfl fun w92=>?_;have :=F_ (B_ (B_ (B_ (⟨[],0⟩:Out) d.kind 1) d.tick 8) d.frm 1) d.number 8;refine gX tv16 [8] 2 ?_;refine vC 9 rfl (Ik_ _ _) rfl fun w93=>?_;have :=C3_ (B_ (B_ (B_ (B_ (⟨[],0⟩:Out) d.kind 1) d.tick 8) d.frm 1) d.number 8) (B3_ d.mail);refine vT 10 rfl (sA tv16 ?_);refine vD ?_;refine gx tv16 5 ?_;refine call (Cf_ _) rfl rfl fun w94=>?_;refine gx tv16 5 ?_;refine rt2 rfl rfl ?_;refine ple ?_;have e:A5_ d=(W_ (B_ (B_ (B_ (B_ (⟨[],0⟩:Out) d.kind 1) d.tick 8) d.frm 1) d.number 8) (B3_ d.mail)).s:=by
      unfold A5_
      first
        |(rw[if_neg (by assumption)];done)
        |(rw[if_pos (by assumption)];unfold Hc_;(repeat (first|rw[if_pos (by omega)]|rw[if_neg (by omega)]|rw[if_pos (by assumption)]|rw[if_neg (by assumption)]|rw[if_neg (not_not_intro (by assumption))]));first|done|rfl)
    rw[e]
    try (rw[show F4_ d=0 by assumption])
  refine gx tv16 6 ?_;refine cn rfl (fun p97=>?_) fun p101=>?_
  · refine aN [2,3,4,5,6,7] 9 mixd ?_;refine gX tv16 [0,1,2,3] 5 ?_;refine vC 4 rfl (out_Num _ _ _ (by ((try have :=hrl (by assumption));first|omega|(simp[B_,W_,Q_,numK]<;>omega)))) rfl fun w98=>?_;have :=F_ (B_ (B_ (⟨[],0⟩:Out) d.kind 1) d.tick 8) d.code 1;refine gX tv16 [5,6] 2 ?_;refine vC 7 rfl (Ck_ _ _) rfl fun w99=>?_;have :=U_ (B_ (B_ (B_ (⟨[],0⟩:Out) d.kind 1) d.tick 8) d.code 1) d.text;refine vT 8 rfl (sA tv16 ?_);refine vD ?_;refine gx tv16 5 ?_;refine call (Cf_ _) rfl rfl fun w100=>?_;refine gx tv16 5 ?_;refine rt2 rfl rfl ?_;refine ple ?_;have e:A5_ d=(D_ (B_ (B_ (B_ (⟨[],0⟩:Out) d.kind 1) d.tick 8) d.code 1) d.text).s:=by
      unfold A5_
      first
        |(rw[if_neg (by assumption)];done)
        |(rw[if_pos (by assumption)];unfold Hc_;(repeat (first|rw[if_pos (by omega)]|rw[if_neg (by omega)]|rw[if_pos (by assumption)]|rw[if_neg (by assumption)]|rw[if_neg (not_not_intro (by assumption))]));first|done|rfl)
    rw[e]
    try (rw[show F4_ d=0 by assumption])
  refine gx tv16 6 ?_;refine call (Cf_ _) rfl rfl fun w102=>?_;refine gx tv16 5 ?_;refine rt2 rfl rfl ?_;refine ple ?_;have e:A5_ d=(B_ (B_ (⟨[],0⟩:Out) d.kind 1) d.tick 8).s:=by
    unfold A5_
    first
      |(rw[if_neg (by assumption)];done)
      |(rw[if_pos (by assumption)];unfold Hc_;(repeat (first|rw[if_pos (by omega)]|rw[if_neg (by omega)]|rw[if_pos (by assumption)]|rw[if_neg (by assumption)]|rw[if_neg (not_not_intro (by assumption))]));first|done|rfl)
  rw[e]
  try (rw[show F4_ d=0 by assumption])
theorem cb232:R_ Tryz.prog 232:=L_ Tryz.func232 (by kernel_rfl) (by kernel_rfl)
def tbv17:Tb:=[(5,ty5),(9,ty9),(22,ty22),(67,ty67),(71,ty71)]
theorem tv17:tbB Tryz.prog tbv17=true:=by kernel_rfl
theorem Xc_ (i:In):Fm Tryz.prog gb 232 [] 272 (In.pc i) (.agg (Mail.pc (((Dv_ i)).1))) (In.pc (((Dv_ i)).2)):=by
  refine O1_ tv17 Tryz.func232 rfl Tryz.ntmps232 rfl cb232 rfl rfl rfl rfl fun w wp b N H hG=>?_;refine gm tv17 8 [1] fun B2=>?_;refine ef (ecallm (D0_ _ _) rfl rfl rfl rfl rfl fun w3 w3p=>?_);have :=Ah_ i 8;generalize hg5:J_ i 8=g4 at *;refine gm tv17 8 [2] fun B7=>?_;refine ef (ecallm (Gv_ _ _) rfl rfl rfl rfl rfl fun w8 w8p=>?_);have :=Bf_ ((g4).2) 16;generalize hg10:I_ ((g4).2) 16=g9 at *;refine gm tv17 7 [] fun _=>?_;refine ef (ecallm (Gv_ _ _) rfl rfl rfl rfl rfl fun w12 w12p=>?_);have :=Bf_ ((g9).2) 64;generalize hg14:I_ ((g9).2) 64=g13 at *;refine gm tv17 7 [] fun _=>?_;refine ef (ecallm (Wa_ _) rfl rfl rfl rfl rfl fun w16 w16p=>?_);have :=L2_ ((g13).2);generalize hg18:Aw_ ((g13).2)=g17 at *;refine gm tv17 7 [] fun _=>?_;refine ef (ecallm (Gv_ _ _) rfl rfl rfl rfl rfl fun w20 w20p=>?_);have :=Bf_ ((g17).2) 256;generalize hg22:I_ ((g17).2) 256=g21 at *;refine gm tv17 7 [] fun _=>?_;refine ef (ecallm (D0_ _ _) rfl rfl rfl rfl rfl fun w24 w24p=>?_);have :=Ah_ ((g21).2) 8;generalize hg26:J_ ((g21).2) 8=g25 at *;refine gm tv17 7 [] fun _=>?_;refine ef (ecallm (D0_ _ _) rfl rfl rfl rfl rfl fun w28 w28p=>?_);have :=Ah_ ((g25).2) 1;generalize hg30:J_ ((g25).2) 1=g29 at *;refine q1 (qconv tv17 rfl rfl rfl rfl (Zg_ (by omega))) rfl fun w31=>?_;refine gm tv17 8 [] fun _=>?_;refine ef (ecallm (Gu_ _) rfl rfl rfl rfl rfl fun w33 w33p=>?_);refine gx tv17 3 ?_;refine cnd rfl (fun h34=>?_) (fun h34=>?_)
  · have p35:=dt h34;refine gx tv17 3 ?_;refine call (Ii_ (⟨(g4).1,(g9).1,(g13).1,(g17).1,(g21).1,(g25).1,(g29).1⟩:Mail)) rfl rfl fun w36=>?_;have :=L8_ (⟨(g4).1,(g9).1,(g13).1,(g17).1,(g21).1,(g25).1,(g29).1⟩:Mail);have hmo36:=fun h=>G6_ (m:=(⟨(g4).1,(g9).1,(g13).1,(g17).1,(g21).1,(g25).1,(g29).1⟩:Mail)) h;refine ef (ecallm (Hd_ _ _) rfl rfl rfl rfl rfl fun w37 w37p=>?_);refine gx tv17 6 ?_;refine ef (ecallm (Gu_ _) rfl rfl rfl rfl rfl fun w38 w38p=>?_);refine gx tv17 3 ?_;refine cnd rfl (fun h39=>?_) (fun h39=>?_)
    · have h40:=Dk_ h39;have p41:=df h40;refine gm tv17 8 [] fun _=>?_;refine rm1 rfl rfl ?_ rfl rfl rfl ?_
      · have e:Dv_ i=((⟨0,[],[],[],[],0,0⟩:Mail),(Ai_ ((g29).2) (Gy_ (⟨(g4).1,(g9).1,(g13).1,(g17).1,(g21).1,(g25).1,(g29).1⟩:Mail)))):=by unfold Dv_;simp only;(repeat first|simp only[hg5,hg10,hg14,hg18,hg22,hg26,hg30]|rw[if_pos (by omega)]|rw[if_neg (by omega)]);all_goals first|rfl|(simp[*];done)|(simp[*];rfl)
        exact ple (by first|(rw[e];done)|(rw[e];rfl))
      have e:Dv_ i=((⟨0,[],[],[],[],0,0⟩:Mail),(Ai_ ((g29).2) (Gy_ (⟨(g4).1,(g9).1,(g13).1,(g17).1,(g21).1,(g25).1,(g29).1⟩:Mail)))):=by unfold Dv_;simp only;(repeat first|simp only[hg5,hg10,hg14,hg18,hg22,hg26,hg30]|rw[if_pos (by omega)]|rw[if_neg (by omega)]);all_goals first|rfl|(simp[*];done)|(simp[*];rfl)
      exact ples (by first|(rw[e];done)|(rw[e];rfl))
    have h43:=Ct_ h39;have p44:=dt h43;refine gm tv17 9 [] fun _=>?_;refine rm1 rfl rfl ?_ rfl rfl rfl ?_
    · have e:Dv_ i=((⟨(g4).1,(g9).1,(g13).1,(g17).1,(g21).1,(g25).1,(g29).1⟩:Mail),(Ai_ ((g29).2) (Gy_ (⟨(g4).1,(g9).1,(g13).1,(g17).1,(g21).1,(g25).1,(g29).1⟩:Mail)))):=by unfold Dv_;simp only;(repeat first|simp only[hg5,hg10,hg14,hg18,hg22,hg26,hg30]|rw[if_pos (by omega)]|rw[if_neg (by omega)]);all_goals first|rfl|(simp[*];done)|(simp[*];rfl)
      exact ple (by first|(rw[e];done)|(rw[e];rfl))
    have e:Dv_ i=((⟨(g4).1,(g9).1,(g13).1,(g17).1,(g21).1,(g25).1,(g29).1⟩:Mail),(Ai_ ((g29).2) (Gy_ (⟨(g4).1,(g9).1,(g13).1,(g17).1,(g21).1,(g25).1,(g29).1⟩:Mail)))):=by unfold Dv_;simp only;(repeat first|simp only[hg5,hg10,hg14,hg18,hg22,hg26,hg30]|rw[if_pos (by omega)]|rw[if_neg (by omega)]);all_goals first|rfl|(simp[*];done)|(simp[*];rfl)
    exact ples (by first|(rw[e];done)|(rw[e];rfl))
  have p46:=df h34;refine gx tv17 6 ?_;refine ef (ecallm (Gu_ _) rfl rfl rfl rfl rfl fun w47 w47p=>?_);refine gx tv17 3 ?_;refine cndT rfl (by rw[h34]<;>rfl) ?_;refine gm tv17 8 [] fun _=>?_;refine rm1 rfl rfl ?_ rfl rfl rfl ?_
  · have e:Dv_ i=((⟨0,[],[],[],[],0,0⟩:Mail),((g29).2)):=by unfold Dv_;simp only;(repeat first|simp only[hg5,hg10,hg14,hg18,hg22,hg26,hg30]|rw[if_pos (by omega)]|rw[if_neg (by omega)]);all_goals first|rfl|(simp[*];done)|(simp[*];rfl)
    exact ple (by first|(rw[e];done)|(rw[e];rfl))
  have e:Dv_ i=((⟨0,[],[],[],[],0,0⟩:Mail),((g29).2)):=by unfold Dv_;simp only;(repeat first|simp only[hg5,hg10,hg14,hg18,hg22,hg26,hg30]|rw[if_pos (by omega)]|rw[if_neg (by omega)]);all_goals first|rfl|(simp[*];done)|(simp[*];rfl)
  exact ples (by first|(rw[e];done)|(rw[e];rfl))
def tbv18:Tb:=[(9,ty9),(106,Vj_)]
theorem tv18:tbB Tryz.prog tbv18=true:=by kernel_rfl
theorem r4_Name (s:Bs):Fn Tryz.prog gb 99 [.str s] (.int .i64 (En_ s)):=by
  refine fC Tryz.func99 tv18 Tryz.ntmps99 fun w N H hG=>?_;refine gx tv18 13 ?_;refine cn rfl (fun p2=>?_) fun p3=>?_
  · refine gx tv18 7 ?_;refine rt1 rfl rfl (ple ?_);have :s=[]:=List.eq_nil_of_length_eq_zero (by omega);subst this
    rfl
  refine gx tv18 10 ?_;refine cn rfl (fun p5=>?_) fun p6=>?_
  · refine gx tv18 7 ?_;refine rt1 rfl rfl (ple ?_);have hne:¬s=[]:=fun q=>by subst q;simp at *
    unfold En_
    rw[if_neg hne,if_pos (by omega)]
  refine gx tv18 9 ?_;refine loop (ι:=Nat) [0,4,5,6,7,8,9] [] (fun k=>[(3, .int .i64 (k:Int))]) (fun k=>[]) (fun k=>k<=s.length/\(s.drop k).all (fun c=>letter c.toNat)=plain s) (fun k=>s.length-k) 0 ⟨rfl,trivial⟩ trivial ?_ ?_
  · exact⟨by omega,rfl⟩
  rintro k hp7;obtain⟨hk1,hk2⟩:=hp7;refine gx tv18 9 ?_;refine cn rfl (fun p9=>?_) fun p15=>?_
  · have :=u8r (s.getD k 0);refine gx tv18 8 ?_;refine q1 (sidx tv18 k rfl rfl rfl rfl rfl (by omega)) rfl fun w10=>?_;refine call (r4_letter _) rfl rfl fun w11=>?_;refine gx tv18 3 ?_;refine cnd rfl (fun h12=>?_) (fun h12=>?_)
    · have h13:=Dk_ h12;refine gx tv18 11 ?_;refine rt1 rfl rfl (ple ?_);have hne:¬s=[]:=fun q=>by subst q;simp at *
      unfold En_
      rw[if_neg hne,if_neg (by omega),<- hk2,S8_ (k:=k) (by omega)]
      simp only[*,Bool.false_and,Bool.false_eq_true,if_false]
    have h14:=Ct_ h12;refine gy tv18 8 ?_;refine next (k+1) rfl rfl ⟨rfl,trivial⟩ trivial ?_ ?_
    · omega
    refine⟨by omega,?_⟩
    rw[<- hk2,S8_ (k:=k) (by omega)]
    simp only[*,Bool.true_and]
  refine gx tv18 11 ?_;refine rt1 rfl rfl (ple ?_);have hne:¬s=[]:=fun q=>by subst q;simp at *
  unfold En_
  rw[if_neg hne,if_neg (by omega),<- hk2,List.drop_of_length_le (by omega)]
  rfl
abbrev ty251:TI:=⟨.agg [(0,1),(1,1),(2,1),(3,1),(4,1),(5,1)],6,88,[.str [], .str [], .bool false, .str [], .sl Pair.pc [], .bool false]⟩
def tbv20:Tb:=[(9,ty9),(64,ty64),(66,ty66),(67,ty67),(69,ty69),(71,ty71),(73,ty73),(251,ty251),(268,ty268)]
theorem tv20:tbB Tryz.prog tbv20=true:=by kernel_rfl
theorem Wp_ (h:List Pair):Fn Tryz.prog gb 101 [.sl Pair.pc h] (.bool (Of_ h)):=by
  refine fC Tryz.func101 tv20 Tryz.ntmps101 fun w N H hG=>?_;refine gx tv20 13 ?_;refine cn rfl (fun p2=>?_) fun p3=>?_
  · refine gx tv20 7 ?_;refine rt1 rfl rfl (ple ?_);exact congrArg PV.bool (by simp[Of_];omega)
  refine gx tv20 11 ?_;refine loop (ι:=Nat) [0,5,6,7,8,9] [] (fun k=>[(10, .int .i64 (k:Int))]) (fun k=>[]) (fun k=>k<=h.length/\h.all W5_=(h.drop k).all W5_) (fun k=>h.length-k) 0 ⟨rfl,trivial⟩ trivial ?_ ?_
  · exact⟨Nat.zero_le _,rfl⟩
  rintro k hp4;obtain⟨hk1,hk2⟩:=hp4;refine gx tv20 6 ?_;refine cn rfl (fun p6=>?_) fun p17=>?_
  · obtain⟨c7,hc8⟩:=getE (xs:=h) (m:=k) (by omega);have c7_w:=Pair.pwf (w.1.2 c7 (List.mem_of_getElem? hc8));refine gx tv20 6 ?_;refine q1 (qidx tv20 k rfl rfl rfl hc8 rfl rfl rfl rfl) rfl fun w9=>?_;refine gmy tv20 19 [0] fun B11=>?_;refine cnd rfl (fun h12=>?_) (fun h12=>?_)
    · refine gx tv20 11 ?_;refine rt1 rfl rfl (ple ?_);exact congrArg PV.bool (by unfold Of_;rw[all_miss hk2 (Dj_ hc8) (by simp[W5_];first|omega|grind)];simp)
    have h13:=orl h12;have p14:=df h13;have h15:=orr h12;have p16:=df h15;refine gy tv20 7 ?_;refine next (k+1) rfl rfl ⟨rfl,trivial⟩ trivial ?_ ?_
    · omega
    exact⟨by omega,all_step hk2 (Dj_ hc8) (by simp[W5_];omega)⟩
  refine gx tv20 11 ?_;refine rt1 rfl rfl (ple ?_);exact congrArg PV.bool (by unfold Of_;rw[all_end hk2 (by omega)];simp;omega)
theorem l13_Light (m:Mail):Fn Tryz.prog gb 102 [.agg (Mail.pc m)] (.bool (O6_ m)):=by
  refine fC Tryz.func102 tv20 Tryz.ntmps102 fun w N H hG=>?_;have m_w:=Mail.pwf w.1;have m_w':=m_w
  simp only[Mail.wf] at m_w'
  have m_head_k:=Mail.kd3 w.1;have m_head_k2:m.head.length<=140737488355328:=w.1.2.2.2.1.1;refine gmy tv20 21 [0] fun B2=>?_;refine callg rfl (fun hc=>(Wp_ _)) rfl ⟨(fun hc=>hc),trivial⟩ rfl rfl fun _=>?_;refine gy tv20 11 ?_;refine rt1 rfl rfl (ple ?_);refine congrArg PV.bool ?_
  unfold O6_
  first|(simp only[*,Bool.and_true,Bool.true_and,Bool.false_and,Bool.and_false,decide_true,decide_false];done)|(rw[Bool.eq_iff_iff];simp[and_assoc];done)|(rw[Bool.eq_iff_iff];simp;grind)
theorem l22_Light (d:DeedR):Fn Tryz.prog gb 39 [.agg (DeedR.pc d)] (.bool (Oe_ d)):=by
  refine fC Tryz.func39 tv20 Tryz.ntmps39 fun w N H hG=>?_;have d_w:=DeedR.pwf w.1;have d_w':=d_w
  simp only[DeedR.wf,ShopR.wf,QueueR.wf,BindR.wf,Mail.wf] at d_w'
  have d_bind_want_k:=DeedR.kd13 w.1;have d_bind_want_k2:d.bind.want.length<=140737488355328:=w.1.2.2.2.2.2.2.2.2.2.2.2.2.2.1.1;have d_mail_head_k:=DeedR.kd24 w.1;have d_mail_head_k2:d.mail.head.length<=140737488355328:=w.1.2.2.2.2.2.2.2.2.2.2.2.2.2.2.2.2.2.2.2.2.2.2.2.2.1.1;refine gm tv20 35 [0] fun B2=>?_;refine q1 (qmaxN (z:=(d.shop.name.length:Int)) (r:=(max (max (max (max (max (max (d.shop.name.length:Int) (d.shop.to'.length:Int)) (d.queue.name.length:Int)) (d.queue.dead.length:Int)) (d.bind.shop.length:Int)) (d.bind.to'.length:Int)) (d.name.length:Int))) [(d.shop.to'.length:Int),(d.queue.name.length:Int),(d.queue.dead.length:Int),(d.bind.shop.length:Int),(d.bind.to'.length:Int),(d.name.length:Int)] rfl rfl (Pr_ (by omega))) rfl fun w3=>?_;refine gy tv20 22 ?_;refine callg rfl (fun hc=>(Wp_ _)) rfl ⟨(fun hc=>hc),trivial⟩ rfl rfl fun _=>?_;refine gy tv20 4 ?_;refine callg rfl (fun hc=>(l13_Light _)) rfl ⟨(fun hc=>hc),trivial⟩ rfl rfl fun _=>?_;refine gy tv20 5 ?_;refine rt1 rfl rfl (ple ?_);refine congrArg PV.bool ?_
  unfold Oe_
  first|(simp only[*,Bool.and_true,Bool.true_and,Bool.false_and,Bool.and_false,decide_true,decide_false];done)|(rw[Bool.eq_iff_iff];simp[and_assoc];done)|(rw[Bool.eq_iff_iff];simp;grind)
abbrev ty332:TI:=⟨.agg [(0,1),(1,1),(2,1),(3,1)],4,56,[.int .u8 0, .str [], .sl Pair.pc [], .bool false]⟩
def tbv22:Tb:=[(4,ty4),(5,ty5),(9,ty9),(67,ty67),(268,ty268),(332,ty332)]
theorem tv22:tbB Tryz.prog tbv22=true:=by kernel_rfl
theorem Tl_ (r:Rule):Fn Tryz.prog gb 226 [.agg (Rule.pc r)] (.int .i64 (Se_ r)):=by
  refine fC Tryz.func226 tv22 Tryz.ntmps226 fun w N H hG=>?_;have r_w:=Rule.pwf w.1;have r_w':=r_w
  simp only[Rule.wf] at r_w'
  have r_want_k:=Rule.kd2 w.1;have r_want_k2:r.want.length<=140737488355328:=w.1.2.2.1.1;refine gm tv22 21 [0] fun B2=>?_;refine cn rfl (fun p4=>?_) fun p5=>?_
  · refine gx tv22 8 ?_;refine rt1 rfl rfl (ple ?_);refine congrArg (PV.int .i64) ?_
    (try simp only[bl1] at *)
    unfold Se_
    repeat (first|rw[if_pos (by omega)]|rw[if_neg (by omega)])
    all_goals first|done|rfl|omega
  refine gx tv22 8 ?_;refine cn rfl (fun p7=>?_) fun p15=>?_
  · refine gx tv22 3 ?_;refine call (X6_ _) rfl rfl fun w8=>?_;refine gx tv22 11 ?_;refine cnd rfl (fun h9=>?_) (fun h9=>?_)
    · have h10:=Dk_ h9;have p11:=df h10;refine gx tv22 8 ?_;refine rt1 rfl rfl (ple ?_);refine congrArg (PV.int .i64) ?_
      (try simp only[bl1] at *)
      unfold Se_
      repeat (first|rw[if_pos (by omega)]|rw[if_neg (by omega)])
      all_goals first|done|rfl|omega
    have h12:=Ct_ h9;have p13:=dt h12;refine gx tv22 6 ?_;refine call (Jm_ _) rfl rfl fun w14=>?_;refine gx tv22 4 ?_;refine rt1 rfl rfl (ple ?_);refine congrArg (PV.int .i64) ?_
    (try simp only[bl1] at *)
    unfold Se_
    repeat (first|rw[if_pos (by omega)]|rw[if_neg (by omega)])
    all_goals first|done|rfl|omega
  refine gx tv22 3 ?_;refine call (Vl_ _) rfl rfl fun w16=>?_;refine gx tv22 11 ?_;refine cnd rfl (fun h17=>?_) (fun h17=>?_)
  · have h18:=Dk_ h17;have p19:=df h18;refine gx tv22 8 ?_;refine rt1 rfl rfl (ple ?_);refine congrArg (PV.int .i64) ?_
    (try simp only[bl1] at *)
    unfold Se_
    repeat (first|rw[if_pos (by omega)]|rw[if_neg (by omega)])
    all_goals first|done|rfl|omega
  have h20:=Ct_ h17;have p21:=dt h20;refine gx tv22 6 ?_;refine call (Jm_ _) rfl rfl fun w22=>?_;refine gx tv22 4 ?_;refine rt1 rfl rfl (ple ?_);refine congrArg (PV.int .i64) ?_
  (try simp only[bl1] at *)
  unfold Se_
  repeat (first|rw[if_pos (by omega)]|rw[if_neg (by omega)])
  all_goals first|done|rfl|omega
theorem rule_heads (r:Rule) (h:List Pair):Fn Tryz.prog gb 297 [.agg (Rule.pc r), .sl Pair.pc h] (.bool (Ko_ r.all h r.want)):=by
  refine fC Tryz.func297 tv22 Tryz.ntmps297 fun w N H hG=>?_;have r_want_l:r.want.length<=140737488355328:=w.1.2.2.1.1;have h_l:h.length<=140737488355328:=w.2.1.1;refine gm tv22 20 [0] fun B2=>?_;refine loop (ι:=Nat) [0,1,2,10,11,12] [0] (fun k=>[(13, .int .i64 (k:Int))]) (fun k=>[]) (fun k=>k<=r.want.length/\Ko_ r.all h r.want=Ko_ r.all h (r.want.drop k)) (fun k=>r.want.length-k) 0 ⟨rfl,trivial⟩ trivial ?_ ?_
  · exact⟨Nat.zero_le _,rfl⟩
  rintro k hp3;obtain⟨hk1,hk2⟩:=hp3;refine gx tv22 6 ?_;refine cn rfl (fun p5=>?_) fun p25=>?_
  · obtain⟨c6,hc7⟩:=getE (xs:=r.want) (m:=k) (by omega);have c6_w:=Pair.pwf (w.1.2.2.1.2 c6 (List.mem_of_getElem? hc7));refine gx tv22 6 ?_;refine q1 (qidx tv22 k rfl rfl rfl hc7 rfl rfl rfl rfl) rfl fun w8=>?_;refine gm tv22 10 [1] fun B10=>?_;refine call (V9_ _ _) rfl rfl fun w11=>?_;refine gm tv22 14 [2] fun B13=>?_;refine q1g [26,27] rfl (fun hc=>saeq rfl rfl eqg268 (veq268 ((Sp_ h c6.key).getD Pair.zero) c6)) ⟨(fun hc=>hc),(fun hc=>hc),trivial⟩ rfl rfl rfl fun _=>?_;refine gy tv22 15 ?_;refine cnd rfl (fun h14=>?_) (fun h14=>?_)
    · have h15:=bl h14;have h16:=bl h15;have h17:=br h15;have p18:=dt h17;have h19:=br h14;refine gy tv22 8 ?_;refine next (k+1) rfl rfl ⟨rfl,trivial⟩ trivial ?_ ?_
      · omega
      refine⟨by omega,?_⟩
      rw[hk2,Dj_ hc7]
      simp only[Ko_]
      first|(simp only[hasP];simp[*];done)|(unfold hasP;simp_all;done)|(unfold hasP;grind)
    refine gx tv22 6 ?_;refine cnd rfl (fun h20=>?_) (fun h20=>?_)
    · have h21:=bl h20;have h22:=br h20;have p23:=dt h22;refine gx tv22 13 ?_;refine rt1 rfl rfl (ple ?_);refine congrArg PV.bool ?_
      rw[hk2,Dj_ hc7]
      simp only[Ko_]
      first|(simp only[hasP];simp[*];done)|(unfold hasP;simp_all;done)|(unfold hasP;grind)
    refine gx tv22 7 ?_;refine cnd rfl (fun h24=>?_) (fun h24=>?_)
    · refine gx tv22 13 ?_;refine rt1 rfl rfl (ple ?_);refine congrArg PV.bool ?_
      rw[hk2,Dj_ hc7]
      simp only[Ko_]
      first|(simp only[hasP];simp[*];done)|(unfold hasP;simp_all;done)|(unfold hasP;grind)
    refine gy tv22 8 ?_;refine next (k+1) rfl rfl ⟨rfl,trivial⟩ trivial ?_ ?_
    · omega
    refine⟨by omega,?_⟩
    rw[hk2,Dj_ hc7]
    simp only[Ko_]
    first|(simp only[hasP];simp[*];done)|(unfold hasP;simp_all;done)|(unfold hasP;grind)
  refine gx tv22 14 ?_;refine rt1 rfl rfl (ple ?_);refine congrArg PV.bool ?_
  rw[hk2,List.drop_of_length_le (by omega)]
  rfl
theorem Sf_ (r:Rule) (key:Bs) (h:List Pair) (hrk:r.key.length<4294967281:=by first|omega|(simp;done)|decide) (hk:key.length<4294967281:=by first|omega|(simp;done)|decide):Fn Tryz.prog gb 256 [.agg (Rule.pc r), .str key, .sl Pair.pc h] (.bool (O3_ r key h)):=by
  refine fC Tryz.func256 tv22 Tryz.ntmps256 fun w N H hG=>?_;refine gm tv22 20 [0] fun B2=>?_;refine cn rfl (fun p4=>?_) fun p5=>?_
  · refine gx tv22 12 ?_;refine rt1 rfl rfl (ple ?_);refine congrArg PV.bool ?_
    first|(simp[O3_, *];done)|(simp[O3_, *];omega)
  refine gx tv22 6 ?_;refine cn rfl (fun p7=>?_) fun p9=>?_
  · refine gx tv22 5 ?_;refine call (Jl_ _ _) rfl rfl fun w8=>?_;refine gx tv22 6 ?_;refine rt1 rfl rfl (ple ?_);refine congrArg PV.bool ?_
    first|(simp[O3_, *];done)|(simp[O3_, *];omega)
  refine gx tv22 6 ?_;refine cn rfl (fun p11=>?_) fun p13=>?_
  · refine gx tv22 4 ?_;refine call (rule_heads _ _) rfl rfl fun w12=>?_;refine gx tv22 6 ?_;refine rt1 rfl rfl (ple ?_);refine congrArg PV.bool ?_
    first|(simp[O3_, *];done)|(simp[O3_, *];omega)
  refine gx tv22 9 ?_;refine rt1 rfl rfl (ple ?_);refine congrArg PV.bool ?_
  first|(simp[O3_, *];done)|(simp[O3_, *];omega)
theorem match_Same (a:Rule) (b:Rule):Fn Tryz.prog gb 234 [.agg (Rule.pc a), .agg (Rule.pc b)] (.bool (decide (a=b))):=by
  refine fC Tryz.func234 tv22 Tryz.ntmps234 fun w N H hG=>?_;refine gmy tv22 33 [0,1] fun B2=>?_;refine callg rfl (fun hc=>(eq_Pair _ _)) rfl ⟨(fun hc=>hc),(fun hc=>hc),trivial⟩ rfl rfl fun _=>?_;refine gy tv22 5 ?_;refine rt1 rfl rfl (ple ?_);exact congrArg PV.bool (by rw[Bool.eq_iff_iff];first|(simp[Rule.eq_iff,and_assoc];done)|(simp[Rule.eq_iff];grind))
abbrev ty40:TI:=⟨.slc 64,1,24,[.sl ShopR.pc []]⟩
abbrev ty43:TI:=⟨.agg [(0,1),(1,1)],2,48,[.sl ShopR.pc [], .sl BindR.pc []]⟩
def tbv23:Tb:=[(5,ty5),(9,ty9),(40,ty40),(43,ty43),(64,ty64),(106,Vj_)]
theorem tv23:tbB Tryz.prog tbv23=true:=by kernel_rfl
theorem eq_Str (a:List Bs) (b:List Bs):Fn Tryz.prog gb 19 [.sl strc a, .sl strc b] (.bool (decide (a=b))):=by
  refine fC Tryz.func19 tv23 Tryz.ntmps19 fun w N H hG=>?_;have a_l:a.length<=140737488355328:=w.1.1;have b_l:b.length<=140737488355328:=w.2.1.1;refine gx tv23 15 ?_;refine cnd rfl (fun h1=>?_) (fun h1=>?_)
  · have h2:=Dk_ h1;have p3:=df h2;refine gx tv23 7 ?_;refine rt1 rfl rfl (ple ?_);exact congrArg PV.bool (T9_ (by assumption)).symm
  have h4:=Ct_ h1;have p5:=dt h4;refine gx tv23 11 ?_;refine loop (ι:=Nat) [0,1,6,7,8,9,10,11,12] [] (fun k=>[(13, .int .i64 (k:Int))]) (fun k=>[]) (fun k=>k<=a.length /\ decide (a=b) = decide (a.drop k=b.drop k)) (fun k=>a.length-k) 0 ⟨rfl,trivial⟩ trivial ?_ ?_
  · exact⟨Nat.zero_le _,rfl⟩
  rintro k hp6;obtain⟨hk1,hk2⟩:=hp6;refine gx tv23 6 ?_;refine cnd rfl (fun h7=>?_) (fun h7=>?_)
  · have p8:=dt h7;refine gx tv23 11 ?_;refine aN [0,1,2,3,4,5] 9 mixd ?_;refine gX tv23 [0,1] 7 ?_;obtain⟨c9,hc10⟩:=getE (xs:=a) (m:=k) (by omega);have c9_l:c9.length<=9223372036854775807:=(w.1.2 c9 (List.mem_of_getElem? hc10)).1;refine vq 2 (qidx tv23 k rfl rfl rfl hc10 rfl rfl rfl rfl) rfl (by kernel_rfl) rfl fun w11=>?_;refine gX tv23 [3,4,5] 3 ?_;obtain⟨c12,hc13⟩:=getE (xs:=b) (m:=k) (by omega);have c12_l:c12.length<=9223372036854775807:=(w.2.1.2 c12 (List.mem_of_getElem? hc13)).1;refine vq 6 (qidx tv23 k rfl rfl rfl hc13 rfl rfl rfl rfl) rfl (by kernel_rfl) rfl fun w14=>?_;refine gX tv23 [7,8] 0 ?_;refine vD ?_;refine gx tv23 1 ?_;refine cnd rfl (fun h15=>?_) (fun h15=>?_)
    · have h16:=Dk_ h15;have p17:=df h16;refine gx tv23 11 ?_;refine rt1 rfl rfl (ple ?_);exact congrArg PV.bool (P3_ hk2 (Dj_ hc10) (Dj_ hc13) (by assumption)).symm
    have h18:=Ct_ h15;have p19:=dt h18;refine gy tv23 7 ?_;refine next (k+1) rfl rfl ⟨rfl,trivial⟩ trivial ?_ ?_
    · omega
    exact⟨by omega,P4_ hk2 (Dj_ hc10) (Dj_ hc13) (by assumption)⟩
  have p20:=df h7;refine gx tv23 11 ?_;refine rt1 rfl rfl (ple ?_);exact congrArg PV.bool (T8_ hk2 (by omega) (by omega)).symm
theorem index_Str (l:List Bs) (x:Bs):Fn Tryz.prog gb 322 [.sl strc l, .str x] (.int .i64 (idxP (fun y=>decide (x=y)) l)):=by
  refine fC Tryz.func322 tv23 Tryz.ntmps322 fun w N H hG=>?_;have l_l:l.length<=140737488355328:=w.1.1;have x_l:x.length<=9223372036854775807:=w.2.1;refine gx tv23 14 ?_;refine loop (ι:=Nat) [0,1,6,7] [] (fun k=>[(8, .int .i64 (k:Int))]) (fun k=>[]) (fun k=>k<=l.length/\idxP (fun y=>decide (x=y)) l=idxF (fun y=>decide (x=y)) k (l.drop k)) (fun k=>l.length-k) 0 ⟨rfl,trivial⟩ trivial ?_ ?_
  · exact⟨Nat.zero_le _,rfl⟩
  rintro k hp1;obtain⟨hik1,hik2⟩:=hp1;refine gx tv23 6 ?_;refine cnd rfl (fun h2=>?_) (fun h2=>?_)
  · have p3:=dt h2;obtain⟨c4,hc5⟩:=getE (xs:=l) (m:=k) (by omega);have c4_l:c4.length<=9223372036854775807:=(w.1.2 c4 (List.mem_of_getElem? hc5)).1;refine gx tv23 15 ?_;refine q1 (qidx tv23 k rfl rfl rfl hc5 rfl rfl rfl rfl) rfl fun w6=>?_;refine gx tv23 4 ?_;refine cnd rfl (fun h7=>?_) (fun h7=>?_)
    · have p8:=dt h7;refine gx tv23 12 ?_;refine rt1 rfl rfl (ple ?_);exact congrArg (PV.int .i64) (Lc_ hik2 (Dj_ hc5) (by first|assumption|(simp[*];done))).symm
    have p9:=df h7;refine gy tv23 7 ?_;refine next (k+1) rfl rfl ⟨rfl,trivial⟩ trivial ?_ ?_
    · omega
    exact⟨by omega,Jf_ hik2 (Dj_ hc5) (by assumption)⟩
  have p10:=df h2;refine gx tv23 11 ?_;refine rt1 rfl rfl (ple ?_);exact congrArg (PV.int .i64) (Lb_ hik2 (by omega)).symm
theorem Vt_ (l:List Bs) (x:Bs):Fn Tryz.prog gb 298 [.sl strc l, .str x] (.bool (decide (x∈l))):=by
  refine fC Tryz.func298 tv23 Tryz.ntmps298 fun w N H hG=>?_;refine gx tv23 9 ?_;refine call (index_Str _ _) rfl rfl fun w1=>?_;have :=idxP_r (fun y=>decide (x=y)) l;refine gx tv23 5 ?_;refine rt1 rfl rfl (ple ?_);refine congrArg PV.bool ?_
  rw[Bool.eq_iff_iff,decide_eq_true_eq,decide_eq_true_eq,idxP_any]
  simp
theorem shop_check (x:ShopR):Fn Tryz.prog gb 218 [.agg (ShopR.pc x)] (.int .i64 (Lo_ x)):=by
  refine fC Tryz.func218 tv23 Tryz.ntmps218 fun w N H hG=>?_;refine gm tv23 11 [0] fun B2=>?_;refine call (Dq_ _) rfl rfl fun w3=>?_;refine gx tv23 9 ?_;refine cnd rfl (fun h4=>?_) (fun h4=>?_)
  · have h5:=Dk_ h4;have p6:=df h5;refine gx tv23 8 ?_;refine rt1 rfl rfl (ple ?_);refine congrArg (PV.int .i64) ?_
    simp only[bl1] at *
    unfold Lo_
    (repeat' split)<;>first|rfl|(exfalso;omega)|(exfalso;simp_all;done)|(exfalso;simp_all;omega)|grind
  have h7:=Ct_ h4;have p8:=dt h7;refine gx tv23 12 ?_;refine cnd rfl (fun h9=>?_) (fun h9=>?_)
  · have p10:=dt h9;refine gx tv23 8 ?_;refine rt1 rfl rfl (ple ?_);refine congrArg (PV.int .i64) ?_
    simp only[bl1] at *
    unfold Lo_
    (repeat' split)<;>first|rfl|(exfalso;omega)|(exfalso;simp_all;done)|(exfalso;simp_all;omega)|grind
  have p11:=df h9;refine gx tv23 8 ?_;refine cnd rfl (fun h12=>?_) (fun h12=>?_)
  · have p13:=dt h12;refine gx tv23 4 ?_;refine call (Dq_ _) rfl rfl fun w14=>?_;refine gx tv23 6 ?_;refine rt1 rfl rfl (ple ?_);refine congrArg (PV.int .i64) ?_
    simp only[bl1] at *
    unfold Lo_
    (repeat' split)<;>first|rfl|(exfalso;omega)|(exfalso;simp_all;done)|(exfalso;simp_all;omega)|grind
  have p15:=df h12;refine gx tv23 8 ?_;refine cnd rfl (fun h16=>?_) (fun h16=>?_)
  · have h17:=Dk_ h16;have p18:=df h17;refine gx tv23 8 ?_;refine rt1 rfl rfl (ple ?_);refine congrArg (PV.int .i64) ?_
    simp only[bl1] at *
    unfold Lo_
    (repeat' split)<;>first|rfl|(exfalso;omega)|(exfalso;simp_all;done)|(exfalso;simp_all;omega)|grind
  have h19:=Ct_ h16;have p20:=dt h19;refine gx tv23 9 ?_;refine rt1 rfl rfl (ple ?_);refine congrArg (PV.int .i64) ?_
  simp only[bl1] at *
  unfold Lo_
  (repeat' split)<;>first|rfl|(exfalso;omega)|(exfalso;simp_all;done)|(exfalso;simp_all;omega)|grind
theorem N4_ (b:BookR) (name:Bs):Fn Tryz.prog gb 199 [.agg (BookR.pc b), .str name] (.tup [.agg (ShopR.pc ((Ft_ b.shops name).getD ShopR.zero)), .bool ((Ft_ b.shops name).isSome)]):=by
  refine fC Tryz.func199 tv23 Tryz.ntmps199 fun w N H hG=>?_;have b_shops_l:b.shops.length<=140737488355328:=w.1.1.1;have b_binds_l:b.binds.length<=140737488355328:=w.1.2.1.1;have name_l:name.length<=9223372036854775807:=w.2.1;refine gm tv23 17 [0,1] fun B2=>?_;refine loop (ι:=Nat) [0,1,2,4,8,9,10] [0,1] (fun k=>[(11, .int .i64 (k:Int))]) (fun k=>[]) (fun k=>k<=b.shops.length/\Ft_ b.shops name=Ft_ (b.shops.drop k) name) (fun k=>b.shops.length-k) 0 ⟨rfl,trivial⟩ trivial ?_ ?_
  · exact⟨Nat.zero_le _,rfl⟩
  rintro k hp4;obtain⟨hk1,hk2⟩:=hp4;refine gx tv23 6 ?_;refine cnd rfl (fun h5=>?_) (fun h5=>?_)
  · have p6:=dt h5;obtain⟨c7,hc8⟩:=getE (xs:=b.shops) (m:=k) (by omega);have c7_w:=ShopR.pwf (w.1.1.2 c7 (List.mem_of_getElem? hc8));refine gx tv23 6 ?_;refine q1 (qidx tv23 k rfl rfl rfl hc8 rfl rfl rfl rfl) rfl fun w9=>?_;refine gm tv23 13 [2] fun B11=>?_;refine cnd rfl (fun h12=>?_) (fun h12=>?_)
    · have p13:=dt h12;refine gm tv23 13 [] fun _=>?_;refine rt2 rfl rfl ?_;refine ple ?_;have e:=shopOf_hit hk2 (Dj_ hc8) (by assumption)
      rw[e]
      rfl
    have p15:=df h12;refine gy tv23 7 ?_;refine next (k+1) rfl rfl ⟨rfl,trivial⟩ trivial ?_ ?_
    · (try simp only[]);omega
    exact⟨by omega,Zl_ hk2 (Dj_ hc8) (by assumption)⟩
  have p16:=df h5;refine gm tv23 13 [] fun _=>?_;refine rt2 rfl rfl ?_;refine ple ?_
  rw[List.drop_of_length_le (by omega)] at hk2
  rw[hk2]
  rfl
abbrev ty41:TI:=⟨.slc 69,1,24,[.sl BindR.pc []]⟩
def tbv24:Tb:=[(4,ty4),(9,ty9),(41,ty41),(67,ty67),(69,ty69),(268,ty268),(332,ty332)]
theorem tv24:tbB Tryz.prog tbv24=true:=by kernel_rfl
theorem N3_ (x:BindR) (sort:Int):Fn Tryz.prog gb 225 [.agg (BindR.pc x), .int .u8 sort] (.agg (Rule.pc (J8_ x sort))):=by
  refine fC Tryz.func225 tv24 Tryz.ntmps225 fun w N H hG=>?_;refine gm tv24 20 [0,1] fun B2=>?_;refine rt1 rfl rfl (ple ?_)
  rfl
theorem Vo_ (x:BindR) (y:BindR):Fn Tryz.prog gb 170 [.agg (BindR.pc x), .agg (BindR.pc y)] (.bool (decide (x=y))):=by
  refine fC Tryz.func170 tv24 Tryz.ntmps170 fun w N H hG=>?_;refine gm tv24 8 [0,1] fun B2=>?_;refine aN [2,3,4,5,6,7] 27 mixd ?_;refine gXy tv24 [0,1,2,3,4,5,6,7,8,9,10,11,12,13,14,15,16,17,18,19,20,22] 5 ?_;refine vE 21 rfl (ecallg rfl (fun hc=>(N3_ _ _)) rfl ⟨(fun hc=>hc),trivial⟩ rfl rfl fun _=>?_);refine vE 23 rfl (ecallg rfl (fun hc=>(N3_ _ _)) rfl ⟨(fun hc=>hc),trivial⟩ rfl rfl fun _=>?_);refine vcallg 24 rfl (by kernel_rfl) rfl (fun hc=>(match_Same _ _)) rfl rfl ⟨(fun hc=>hc),(fun hc=>hc),trivial⟩ rfl fun _=>?_;refine gXy tv24 [25,26] 0 ?_;refine vD ?_;refine gx tv24 2 ?_;refine rt1 rfl rfl (ple ?_);exact congrArg PV.bool (by rw[Bool.eq_iff_iff];first|(simp[BindR.eq_iff,J8_,and_assoc];done)|(simp[BindR.eq_iff,J8_];grind))
theorem S0_ (s:List Pair) (hl:s.length<=1000000:=by first|omega|(simp;done)|(simp;omega)):Fn Tryz.prog gb 204 [.sl Pair.pc s] (.sl Pair.pc s):=by
  refine fC Tryz.func204 tv24 Tryz.ntmps204 fun w N H hG=>?_;refine gx tv24 9 ?_;refine ef (lnil tv24 rfl rfl rfl rfl rfl fun b1 hb2=>?_);refine gx tv24 2 ?_;refine cnd rfl (fun h3=>?_) (fun h3=>?_)
  · refine gx tv24 7 ?_;refine rt1 rfl rfl ?_;refine Ip_ ?_;exact hb2 (by assumption)
  refine gx tv24 4 ?_;refine ef (bsl 0 Pair.pc [] tv24 rfl rfl rfl rfl rfl (fun _=>rfl) rfl (by decide) (by decide) rfl fun u4=>?_);refine gx tv24 1 ?_;refine ef (app tv24 s rfl rfl rfl rfl rfl rfl rfl rfl rfl (src_l rfl (fun _=>rfl)) (by first|omega|(simp;omega)) rfl fun u5=>?_);refine gx tv24 3 ?_;refine givec 0 rfl ?_;refine gx tv24 1 ?_;refine rt1 rfl rfl (ple ?_)
  simp
theorem Sw_ (x:BindR) (hl:x.want.length<=1000000:=by first|omega|(simp;done)|decide):Fn Tryz.prog gb 155 [.agg (BindR.pc x)] (.agg (BindR.pc x)):=by
  refine fC Tryz.func155 tv24 Tryz.ntmps155 fun w N H hG=>?_;refine gm tv24 10 [0,1] fun B2=>?_;refine call (S0_ _) rfl rfl fun w4=>?_;refine gm tv24 11 [] fun _=>?_;refine rt1 rfl rfl (ple ?_)
  rfl
theorem idxF_Bind (s:List BindR) (f:FuncId) (f_fst f_cap:List PV) (f_p:BindR->Bool) (f_h:∀ x,Fn Tryz.prog gb f (argsP.apL f_fst ((.agg (BindR.pc x))::f_cap)) (.bool (f_p x))):Fn Tryz.prog gb 273 [.sl BindR.pc s, .fn f f_fst f_cap] (.int .i64 (idxP f_p s)):=by
  refine fC Tryz.func273 tv24 Tryz.ntmps273 fun w N H hG=>?_;have s_l:s.length<=140737488355328:=w.1.1;refine gx tv24 14 ?_;refine loop (ι:=Nat) [0,1,6,7] [] (fun k=>[(8, .int .i64 (k:Int))]) (fun k=>[]) (fun k=>k<=s.length/\idxP f_p s=idxF f_p k (s.drop k)) (fun k=>s.length-k) 0 ⟨rfl,trivial⟩ trivial ?_ ?_
  · exact⟨Nat.zero_le _,rfl⟩
  rintro k hp1;obtain⟨hk1,hk2⟩:=hp1;refine gx tv24 6 ?_;refine cnd rfl (fun h2=>?_) (fun h2=>?_)
  · have p3:=dt h2;obtain⟨c4,hc5⟩:=getE (xs:=s) (m:=k) (by omega);have c4_w:=BindR.pwf (w.1.2 c4 (List.mem_of_getElem? hc5));refine gx tv24 15 ?_;refine q1 (qidx tv24 k rfl rfl rfl hc5 rfl rfl rfl rfl) rfl fun w6=>?_;refine gx tv24 1 ?_;refine call (f_h c4) rfl rfl fun w7=>?_;refine gx tv24 2 ?_;refine cnd rfl (fun h8=>?_) (fun h8=>?_)
    · refine gx tv24 12 ?_;refine rt1 rfl rfl (ple ?_);exact congrArg (PV.int .i64) (Lc_ hk2 (Dj_ hc5) (by assumption)).symm
    refine gy tv24 7 ?_;refine next (k+1) rfl rfl ⟨rfl,trivial⟩ trivial ?_ ?_
    · omega
    exact⟨by omega,Jf_ hk2 (Dj_ hc5) (by assumption)⟩
  have p9:=df h2;refine gx tv24 11 ?_;refine rt1 rfl rfl (ple ?_);exact congrArg (PV.int .i64) (Lb_ hk2 (by omega)).symm
def tbv25:Tb:=[(9,ty9),(71,ty71),(169,X3_),(332,ty332)]
theorem tv25:tbB Tryz.prog tbv25=true:=by kernel_rfl
theorem l01_awake:Fn Tryz.prog gb 239 [] (.bool true):=by
  refine fC Tryz.func239 tv25 Tryz.ntmps239 fun w N H hG=>?_;refine gx tv25 8 ?_;refine call (out_Num (⟨[],0⟩:Out) _ _ (by ((try have :=hrl (by assumption));first|omega|(simp[B_,W_,Q_,numK]<;>omega)))) rfl rfl fun w1=>?_;have nl0:(⟨[],0⟩:Out).s.length=0:=rfl;have :=F_ (⟨[],0⟩:Out) 258 2;refine call (Cf_ _) rfl rfl fun w2=>?_;refine gx tv25 1 ?_;refine so_rt (t:=4) (p':= .bool true) (ple (congrArg PV.bool (show decide (((B_ (⟨[],0⟩:Out) 258 2).s)=[1,2])=true by decide +kernel))) rfl ?_;refine gx tv25 1 ?_;refine ungd rfl rfl ?_;refine gx tv25 1 ?_;refine ungd rfl rfl ?_;refine call (Ck_ (⟨[],0⟩:Out) _) rfl rfl fun w3=>?_;have nl0:(⟨[],0⟩:Out).s.length=0:=rfl;have :=U_ (⟨[],0⟩:Out) [97,98];refine ungd rfl rfl ?_;refine call (Cf_ _) rfl rfl fun w4=>?_;refine ungd rfl rfl ?_;refine gx tv25 1 ?_;refine so_rt (t:=9) (p':= .bool true) (ple (congrArg PV.bool (show decide (((D_ (⟨[],0⟩:Out) [97,98]).s)=[0,2,97,98])=true by decide +kernel))) rfl ?_;refine gx tv25 2 ?_;refine ungd rfl rfl ?_;refine ef (ecallb 0 (Rv_ _) rfl rfl fun w5 b6=>?_);refine ungd rfl rfl ?_;refine ef (ecallm (D0_ (⟨[1,2],0⟩) _) rfl rfl rfl rfl rfl fun w7 w7p=>?_);have :=Ah_ (⟨[1,2],0⟩) 2;refine ungd rfl rfl ?_;refine gx tv25 1 ?_;refine so_rt (t:=14) (p':= .bool true) (ple (congrArg PV.bool (show decide ((((J_ (⟨[1,2],0⟩) 2)).1)=258)=true by decide +kernel))) rfl ?_;refine gx tv25 5 ?_;refine rt1 rfl rfl (ple ?_);exact congrArg PV.bool (by first|rfl|decide +kernel)
theorem Q3_:Fn Tryz.prog gb 177 [] (.bool true):=by
  refine fC Tryz.func177 tv25 Tryz.ntmps177 fun w N H hG=>?_;refine gx tv25 7 ?_;refine call l01_awake rfl rfl fun w1=>?_;refine gx tv25 4 ?_;refine rt1 rfl rfl (ple ?_)
  rfl
theorem l04_awake:Fn Tryz.prog gb 314 [] (.bool true):=by
  refine fC Tryz.func314 tv25 Tryz.ntmps314 fun w N H hG=>?_;refine gx tv25 7 ?_;refine call (Jl_ _ _) rfl rfl fun w1=>?_;refine so_rt (t:=1) (p':= .bool true) (ple (congrArg PV.bool (show mt (Cc_ [97,46,42,46,35]) (Cc_ [97,46,98])=true by decide +kernel))) rfl ?_;refine gx tv25 1 ?_;refine ungd rfl rfl ?_;refine call (Jl_ _ _) rfl rfl fun w2=>?_;refine so_rt (t:=3) (p':= .bool true) (ple (congrArg PV.bool (show mt (Cc_ [97,46,42,46,35]) (Cc_ [97,46,98,46,99,46,100])=true by decide +kernel))) rfl ?_;refine gx tv25 2 ?_;refine ungd rfl rfl ?_;refine call (Jl_ _ _) rfl rfl fun w3=>?_;refine so_rt (t:=6) (p':= .bool false) (ple (congrArg PV.bool (show mt (Cc_ [97,46,42,46,35]) (Cc_ [97])=false by decide +kernel))) rfl ?_;refine ungd rfl rfl ?_;refine gx tv25 1 ?_;refine so_rt (t:=7) (p':= .bool true) (ple (congrArg PV.bool (show !false=true by decide +kernel))) rfl ?_;refine gx tv25 2 ?_;refine ungd rfl rfl ?_;refine call (Dq_ _) rfl rfl fun w4=>?_;refine ungd rfl rfl ?_;refine gx tv25 1 ?_;refine so_rt (t:=11) (p':= .bool true) (ple (congrArg PV.bool (show decide ((En_ [97,45,49])=0)=true by decide +kernel))) rfl ?_;refine gx tv25 5 ?_;refine rt1 rfl rfl (ple ?_);exact congrArg PV.bool (by first|rfl|decide +kernel)
theorem L3_:Fn Tryz.prog gb 281 [] (.bool true):=by
  refine fC Tryz.func281 tv25 Tryz.ntmps281 fun w N H hG=>?_;refine gx tv25 7 ?_;refine call l04_awake rfl rfl fun w1=>?_;refine gx tv25 4 ?_;refine rt1 rfl rfl (ple ?_)
  rfl
theorem l09_awake:Fn Tryz.prog gb 349 [] (.bool true):=by
  refine fC Tryz.func349 tv25 Tryz.ntmps349 fun w N H hG=>?_;refine gx tv25 7 ?_;refine call (Fn.le (Kv_ []) (A_ S_ Aa_) (ple rfl) rfl) rfl rfl fun w1=>?_;have :=Fm_ [];refine gx tv25 9 ?_;refine call Q3_ rfl rfl fun w2=>?_;refine gx tv25 1 ?_;refine ungd rfl rfl ?_;refine call L3_ rfl rfl fun w3=>?_;refine gx tv25 2 ?_;refine ungd rfl rfl ?_;refine gx tv25 1 ?_;refine ungd rfl rfl ?_;refine gx tv25 1 ?_;refine so_rt (t:=13) (p':= .bool true) (ple (congrArg PV.bool (show decide ((Fu_ [])=0)=true by decide +kernel))) rfl ?_;refine gx tv25 2 ?_;refine ungd rfl rfl ?_;refine gx tv25 1 ?_;refine ungd rfl rfl ?_;refine gx tv25 1 ?_;refine so_rt (t:=17) (p':= .bool true) (ple (congrArg PV.bool (show decide ((Ax_ [])=[0])=true by decide +kernel))) rfl ?_;refine gx tv25 5 ?_;refine rt1 rfl rfl (ple ?_);exact congrArg PV.bool (by first|rfl|decide +kernel)
theorem Wo_:Fn Tryz.prog gb 339 [] (.bool true):=by
  refine fC Tryz.func339 tv25 Tryz.ntmps339 fun w N H hG=>?_;refine gx tv25 7 ?_;refine call l09_awake rfl rfl fun w1=>?_;refine gx tv25 4 ?_;refine rt1 rfl rfl (ple ?_)
  rfl
theorem l10_awake:Fn Tryz.prog gb 350 [] (.bool true):=by
  refine fC Tryz.func350 tv25 Tryz.ntmps350 fun w N H hG=>?_;refine gm tv25 14 [0] fun B2=>?_;refine call L3_ rfl rfl fun w3=>?_;refine gx tv25 1 ?_;refine ungd rfl rfl ?_;refine call Wo_ rfl rfl fun w4=>?_;refine gx tv25 2 ?_;refine ungd rfl rfl ?_;refine gx tv25 1 ?_;refine ungd rfl rfl ?_;refine call (Tl_ (⟨2,[97,46,35],[],false⟩:Rule)) rfl rfl fun w5=>?_;refine ungd rfl rfl ?_;refine gx tv25 1 ?_;refine so_rt (t:=10) (p':= .bool true) (ple (congrArg PV.bool (show decide ((Se_ (⟨2,[97,46,35],[],false⟩:Rule))=0)=true by decide +kernel))) rfl ?_;refine gx tv25 2 ?_;refine ungd rfl rfl ?_;refine gx tv25 1 ?_;refine ungd rfl rfl ?_;refine call (Fn.le (Sf_ (⟨2,[97,46,35],[],false⟩:Rule) _ []) (A_ (ple rfl) (A_ (ple rfl) (A_ S_ Aa_))) (ple rfl) rfl) rfl rfl fun w6=>?_;refine so_rt (t:=14) (p':= .bool true) (ple (congrArg PV.bool (show O3_ (⟨2,[97,46,35],[],false⟩:Rule) [97,46,98] []=true by decide +kernel))) rfl ?_;refine gx tv25 2 ?_;refine ungd rfl rfl ?_;refine gx tv25 1 ?_;refine ungd rfl rfl ?_;refine call (Fn.le (Sf_ (⟨2,[97,46,35],[],false⟩:Rule) _ []) (A_ (ple rfl) (A_ (ple rfl) (A_ S_ Aa_))) (ple rfl) rfl) rfl rfl fun w7=>?_;refine so_rt (t:=18) (p':= .bool false) (ple (congrArg PV.bool (show O3_ (⟨2,[97,46,35],[],false⟩:Rule) [98] []=false by decide +kernel))) rfl ?_;refine ungd rfl rfl ?_;refine gx tv25 1 ?_;refine so_rt (t:=19) (p':= .bool true) (ple (congrArg PV.bool (show !false=true by decide +kernel))) rfl ?_;refine gx tv25 5 ?_;refine rt1 rfl rfl (ple ?_);exact congrArg PV.bool (by first|rfl|decide +kernel)
theorem l10_Awake:Fn Tryz.prog gb 340 [] (.bool true):=by
  refine fC Tryz.func340 tv25 Tryz.ntmps340 fun w N H hG=>?_;refine gx tv25 7 ?_;refine call l10_awake rfl rfl fun w1=>?_;refine gx tv25 4 ?_;refine rt1 rfl rfl (ple ?_)
  rfl
theorem l13_awake:Fn Tryz.prog gb 318 [] (.bool true):=by
  refine fC Tryz.func318 tv25 Tryz.ntmps318 fun w N H hG=>?_;refine gx tv25 8 ?_;refine call (K2_ (⟨0,[97],[],[],[],0,0⟩:Mail)) rfl rfl fun w1=>?_;have :=Ex_ (⟨0,[97],[],[],[],0,0⟩:Mail);refine gx tv25 9 ?_;refine call Wo_ rfl rfl fun w2=>?_;refine gx tv25 1 ?_;refine ungd rfl rfl ?_;refine gx tv25 1 ?_;refine ungd rfl rfl ?_;refine gx tv25 1 ?_;refine so_rt (t:=11) (p':= .bool true) (ple (congrArg PV.bool (show decide ((Gy_ (⟨0,[97],[],[],[],0,0⟩:Mail))=0)=true by decide +kernel))) rfl ?_;refine gx tv25 2 ?_;refine ungd rfl rfl ?_;refine gx tv25 1 ?_;refine ungd rfl rfl ?_;refine gx tv25 1 ?_;refine ungd rfl rfl ?_;refine gx tv25 1 ?_;refine so_rt (t:=16) (p':= .bool true) (ple (congrArg PV.bool (show decide (((B3_ (⟨0,[97],[],[],[],0,0⟩:Mail)).length:Int)=25)=true by decide +kernel))) rfl ?_;refine gx tv25 5 ?_;refine rt1 rfl rfl (ple ?_);exact congrArg PV.bool (by first|rfl|decide +kernel)
theorem Q9_:Fn Tryz.prog gb 285 [] (.bool true):=by
  refine fC Tryz.func285 tv25 Tryz.ntmps285 fun w N H hG=>?_;refine gx tv25 7 ?_;refine call l13_awake rfl rfl fun w1=>?_;refine gx tv25 4 ?_;refine rt1 rfl rfl (ple ?_)
  rfl
theorem cb272:R_ Tryz.prog 272:=L_ Tryz.func272 (by kernel_rfl) (by kernel_rfl)
theorem cb274:R_ Tryz.prog 274:=L_ Tryz.func274 (by kernel_rfl) (by kernel_rfl)
abbrev ty374:TI:=⟨.slc 40,1,24,[.sl (slc ShopR.pc) []]⟩
abbrev ty377:TI:=⟨.slc 41,1,24,[.sl (slc BindR.pc) []]⟩
def tbv40:Tb:=[(3,ty3),(40,ty40),(41,ty41),(64,ty64),(69,ty69),(374,ty374),(377,ty377)]
theorem tv40:tbB Tryz.prog tbv40=true:=by kernel_rfl
theorem grow_Shop (n:Int) (hn:0<=n/\n<=100000000:=by omega):Fo Tryz.prog gb 272 [.val (.slice none 0 0), .int .i64 n] (fun u=> .val u) 3 64 ShopR.pc ([]:List ShopR):=by
  refine Ug_ tv40 Tryz.func272 rfl Tryz.ntmps272 rfl cb272 (fun _=>rfl) rfl fun w N H hG=>?_;refine gx tv40 12 ?_;refine cnd rfl (fun h1=>?_) (fun h1=>?_)
  · have p2:=dt h1
    exfalso;omega
  have p3:=df h1;refine gx tv40 7 ?_;refine q1 (qcap0 tv40 rfl rfl rfl) rfl fun w4=>?_;refine gx tv40 1 ?_;refine q1 (qlen0 tv40 rfl rfl rfl) rfl fun w5=>?_;refine gy tv40 11 ?_;refine cn rfl (fun p7=>?_) fun p13=>?_
  · refine gx tv40 3 ?_;refine q1 (qcap0 tv40 rfl rfl rfl) rfl fun w8=>?_;refine q1 (qcut0 tv40 rfl rfl rfl rfl rfl (by omega)) rfl fun w9=>?_;refine gx tv40 1 ?_;refine ef (appz (m:=((n-(0-0))).toNat) 0 tv40 rfl rfl rfl rfl rfl rfl rfl rfl rfl rfl (by omega) (by omega) (by (try simp only[]);omega) rfl rfl fun u10=>?_);refine gx tv40 1 ?_;refine q1 (qlen0 tv40 rfl rfl rfl) rfl fun w11=>?_;refine ef (ocut ShopR.pc tv40 rfl rfl rfl rfl rfl rfl (by omega) rfl fun u12=>?_);refine gx tv40 9 ?_;refine sw_val (t:=4) (i:=0) rfl rfl ?_;refine gx tv40 1 ?_;refine ro1 (j:=0) rfl rfl rfl ?_
    rfl
  refine gx tv40 8 ?_;refine sw_own (t:=4) (k:=3) (e:=64) 0 ShopR.pc rfl rfl ?_;refine sw_val (t:=4) (i:=0) rfl rfl ?_;refine gx tv40 1 ?_;refine ro1 (j:=0) rfl rfl rfl ?_
  rfl
theorem Qr_ (ls:List (List ShopR)) (hl:ls.flatten.length<=100000000:=by first|omega|(simp;done)|(simp;omega)|(simp only[List.flatten_cons,List.flatten_nil,List.length_append,List.append_nil];simp;omega)):Fn Tryz.prog gb 219 [.sl (slc ShopR.pc) ls] (.sl ShopR.pc ls.flatten):=by
  refine fC Tryz.func219 tv40 Tryz.ntmps219 fun w N H hG=>?_;have ls_l:ls.length<=140737488355328:=w.1.1;refine gx tv40 19 ?_;refine loop (ι:=Nat×Int) [0,2,9,10] [] (fun ⟨k,n⟩=>[(3, .int .i64 n),(11, .int .i64 (k:Int))]) (fun ⟨k,n⟩=>[]) (fun ⟨k,n⟩=>k<=ls.length/\n=((ls.take k).flatten.length:Int)) (fun ⟨k,n⟩=>ls.length-k) ⟨0,0⟩ ⟨rfl,rfl,trivial⟩ trivial ?_ ?_
  · exact⟨Nat.zero_le _,by simp⟩
  rintro⟨k,n⟩ hp1;obtain⟨hk1,hk2⟩:=hp1;have hg0:=Cn_ ls k;refine gx tv40 6 ?_;refine cn rfl (fun p3=>?_) fun p10=>?_
  · obtain⟨c4,hc5⟩:=getE (xs:=ls) (m:=k) (by omega);refine gx tv40 6 ?_;refine q1 (qidx tv40 k rfl rfl rfl hc5 rfl rfl rfl rfl) rfl fun w6=>?_;refine go tv40 19 rfl rfl ⟨(by have hg:=Cn_ ls (k+1);have hfl:=congrArg List.length (Au_ (by assumption :ls[k]? = some _));simp only[List.length_append] at hfl;omega),trivial⟩ ?_;refine cnd rfl (fun h7=>?_) (fun h7=>?_)
    · have p8:=dt h7
      exfalso;omega
    have p9:=df h7;refine go tv40 7 rfl rfl ⟨(by have hg:=Cn_ ls (k+1);have hfl:=congrArg List.length (Au_ (by assumption :ls[k]? = some _));simp only[List.length_append] at hfl;omega),trivial⟩ ?_;refine next ⟨(k+1),(n+(c4.length:Int))⟩ rfl rfl ⟨rfl,rfl,trivial⟩ trivial ?_ ?_
    · (try simp only[]);omega
    have hf:=Au_ hc5;have hg:=Cn_ ls (k+1);have hfl:=congrArg List.length hf
    simp only[List.length_append] at hfl
    exact⟨by omega,by (try simp only[]);omega⟩
  refine gx tv40 8 ?_;refine ef (ecallo 0 (grow_Shop _) rfl rfl fun u12 w11=>?_);refine gx tv40 12 ?_;refine sw_osl (t:=6) 0 rfl rfl ?_;refine loop (ι:=Nat×(List ShopR)×Value) [0,2,3,9,10,11,12,23,24,25,26] [] (fun ⟨k,out,u_out⟩=>[(6, .osl 0),(27, .int .i64 (k:Int))]) (fun ⟨k,out,u_out⟩=>[(0, .arr u_out 3 64 ShopR.pc out)]) (fun ⟨k,out,u_out⟩=>k<=ls.length/\out=(ls.take k).flatten) (fun ⟨k,out,u_out⟩=>ls.length-k) ⟨0,([]:List ShopR),(u12)⟩ ⟨rfl,rfl,trivial⟩ ⟨rfl,trivial⟩ ?_ ?_
  · exact⟨Nat.zero_le _,by simp⟩
  rintro⟨k,out,u_out⟩ hp13;obtain⟨hk1,hk2⟩:=hp13;refine gx tv40 6 ?_;refine cn rfl (fun p15=>?_) fun p20=>?_
  · obtain⟨c16,hc17⟩:=getE (xs:=ls) (m:=k) (by omega);refine gx tv40 6 ?_;refine q1 (qidx tv40 k rfl rfl rfl hc17 rfl rfl rfl rfl) rfl fun w18=>?_;refine gx tv40 7 ?_;refine ef (app tv40 c16 rfl rfl rfl rfl rfl rfl rfl rfl rfl (src_l rfl (fun _=>rfl)) (by have hg:=Cn_ ls (k+1);have hfl:=congrArg List.length (Au_ (by assumption :ls[k]? = some _));simp only[List.length_append] at hfl;subst hk2;(try simp only[]);omega) rfl fun u19=>?_);refine go tv40 8 rfl rfl ⟨(by have hg:=Cn_ ls (k+1);have hfl:=congrArg List.length (Au_ (by assumption :ls[k]? = some _));simp only[List.length_append] at hfl;omega),trivial⟩ ?_;refine next ⟨(k+1),(out++c16),(u19)⟩ rfl rfl ⟨rfl,rfl,trivial⟩ ⟨rfl,trivial⟩ ?_ ?_
    · (try simp only[]);omega
    exact⟨by omega,by (try simp only[]);rw[Au_ hc17,hk2]⟩
  refine gx tv40 11 ?_;refine givec 0 rfl ?_;refine gx tv40 1 ?_;refine rt1 rfl rfl (ple ?_)
  rw[hk2,Ku_ (by omega)]
theorem grow_Bind (n:Int) (hn:0<=n/\n<=100000000:=by omega):Fo Tryz.prog gb 274 [.val (.slice none 0 0), .int .i64 n] (fun u=> .val u) 6 69 BindR.pc ([]:List BindR):=by
  refine Ug_ tv40 Tryz.func274 rfl Tryz.ntmps274 rfl cb274 (fun _=>rfl) rfl fun w N H hG=>?_;refine gx tv40 12 ?_;refine cnd rfl (fun h1=>?_) (fun h1=>?_)
  · have p2:=dt h1
    exfalso;omega
  have p3:=df h1;refine gx tv40 7 ?_;refine q1 (qcap0 tv40 rfl rfl rfl) rfl fun w4=>?_;refine gx tv40 1 ?_;refine q1 (qlen0 tv40 rfl rfl rfl) rfl fun w5=>?_;refine gy tv40 11 ?_;refine cn rfl (fun p7=>?_) fun p13=>?_
  · refine gx tv40 3 ?_;refine q1 (qcap0 tv40 rfl rfl rfl) rfl fun w8=>?_;refine q1 (qcut0 tv40 rfl rfl rfl rfl rfl (by omega)) rfl fun w9=>?_;refine gx tv40 1 ?_;refine ef (appz (m:=((n-(0-0))).toNat) 0 tv40 rfl rfl rfl rfl rfl rfl rfl rfl rfl rfl (by omega) (by omega) (by (try simp only[]);omega) rfl rfl fun u10=>?_);refine gx tv40 1 ?_;refine q1 (qlen0 tv40 rfl rfl rfl) rfl fun w11=>?_;refine ef (ocut BindR.pc tv40 rfl rfl rfl rfl rfl rfl (by omega) rfl fun u12=>?_);refine gx tv40 9 ?_;refine sw_val (t:=4) (i:=0) rfl rfl ?_;refine gx tv40 1 ?_;refine ro1 (j:=0) rfl rfl rfl ?_
    rfl
  refine gx tv40 8 ?_;refine sw_own (t:=4) (k:=6) (e:=69) 0 BindR.pc rfl rfl ?_;refine sw_val (t:=4) (i:=0) rfl rfl ?_;refine gx tv40 1 ?_;refine ro1 (j:=0) rfl rfl rfl ?_
  rfl
theorem Qp_ (ls:List (List BindR)) (hl:ls.flatten.length<=100000000:=by first|omega|(simp;done)|(simp;omega)|(simp only[List.flatten_cons,List.flatten_nil,List.length_append,List.append_nil];simp;omega)):Fn Tryz.prog gb 224 [.sl (slc BindR.pc) ls] (.sl BindR.pc ls.flatten):=by
  refine fC Tryz.func224 tv40 Tryz.ntmps224 fun w N H hG=>?_;have ls_l:ls.length<=140737488355328:=w.1.1;refine gx tv40 19 ?_;refine loop (ι:=Nat×Int) [0,2,9,10] [] (fun ⟨k,n⟩=>[(3, .int .i64 n),(11, .int .i64 (k:Int))]) (fun ⟨k,n⟩=>[]) (fun ⟨k,n⟩=>k<=ls.length/\n=((ls.take k).flatten.length:Int)) (fun ⟨k,n⟩=>ls.length-k) ⟨0,0⟩ ⟨rfl,rfl,trivial⟩ trivial ?_ ?_
  · exact⟨Nat.zero_le _,by simp⟩
  rintro⟨k,n⟩ hp1;obtain⟨hk1,hk2⟩:=hp1;have hg0:=Cn_ ls k;refine gx tv40 6 ?_;refine cn rfl (fun p3=>?_) fun p10=>?_
  · obtain⟨c4,hc5⟩:=getE (xs:=ls) (m:=k) (by omega);refine gx tv40 6 ?_;refine q1 (qidx tv40 k rfl rfl rfl hc5 rfl rfl rfl rfl) rfl fun w6=>?_;refine go tv40 19 rfl rfl ⟨(by have hg:=Cn_ ls (k+1);have hfl:=congrArg List.length (Au_ (by assumption :ls[k]? = some _));simp only[List.length_append] at hfl;omega),trivial⟩ ?_;refine cnd rfl (fun h7=>?_) (fun h7=>?_)
    · have p8:=dt h7
      exfalso;omega
    have p9:=df h7;refine go tv40 7 rfl rfl ⟨(by have hg:=Cn_ ls (k+1);have hfl:=congrArg List.length (Au_ (by assumption :ls[k]? = some _));simp only[List.length_append] at hfl;omega),trivial⟩ ?_;refine next ⟨(k+1),(n+(c4.length:Int))⟩ rfl rfl ⟨rfl,rfl,trivial⟩ trivial ?_ ?_
    · (try simp only[]);omega
    have hf:=Au_ hc5;have hg:=Cn_ ls (k+1);have hfl:=congrArg List.length hf
    simp only[List.length_append] at hfl
    exact⟨by omega,by (try simp only[]);omega⟩
  refine gx tv40 8 ?_;refine ef (ecallo 0 (grow_Bind _) rfl rfl fun u12 w11=>?_);refine gx tv40 12 ?_;refine sw_osl (t:=6) 0 rfl rfl ?_;refine loop (ι:=Nat×(List BindR)×Value) [0,2,3,9,10,11,12,23,24,25,26] [] (fun ⟨k,out,u_out⟩=>[(6, .osl 0),(27, .int .i64 (k:Int))]) (fun ⟨k,out,u_out⟩=>[(0, .arr u_out 6 69 BindR.pc out)]) (fun ⟨k,out,u_out⟩=>k<=ls.length/\out=(ls.take k).flatten) (fun ⟨k,out,u_out⟩=>ls.length-k) ⟨0,([]:List BindR),(u12)⟩ ⟨rfl,rfl,trivial⟩ ⟨rfl,trivial⟩ ?_ ?_
  · exact⟨Nat.zero_le _,by simp⟩
  rintro⟨k,out,u_out⟩ hp13;obtain⟨hk1,hk2⟩:=hp13;refine gx tv40 6 ?_;refine cn rfl (fun p15=>?_) fun p20=>?_
  · obtain⟨c16,hc17⟩:=getE (xs:=ls) (m:=k) (by omega);refine gx tv40 6 ?_;refine q1 (qidx tv40 k rfl rfl rfl hc17 rfl rfl rfl rfl) rfl fun w18=>?_;refine gx tv40 7 ?_;refine ef (app tv40 c16 rfl rfl rfl rfl rfl rfl rfl rfl rfl (src_l rfl (fun _=>rfl)) (by have hg:=Cn_ ls (k+1);have hfl:=congrArg List.length (Au_ (by assumption :ls[k]? = some _));simp only[List.length_append] at hfl;subst hk2;(try simp only[]);omega) rfl fun u19=>?_);refine go tv40 8 rfl rfl ⟨(by have hg:=Cn_ ls (k+1);have hfl:=congrArg List.length (Au_ (by assumption :ls[k]? = some _));simp only[List.length_append] at hfl;omega),trivial⟩ ?_;refine next ⟨(k+1),(out++c16),(u19)⟩ rfl rfl ⟨rfl,rfl,trivial⟩ ⟨rfl,trivial⟩ ?_ ?_
    · (try simp only[]);omega
    exact⟨by omega,by (try simp only[]);rw[Au_ hc17,hk2]⟩
  refine gx tv40 11 ?_;refine givec 0 rfl ?_;refine gx tv40 1 ?_;refine rt1 rfl rfl (ple ?_)
  rw[hk2,Ku_ (by omega)]
theorem cb257:R_ Tryz.prog 257:=L_ Tryz.func257 (by kernel_rfl) (by kernel_rfl)
def tbv45:Tb:=[(9,ty9),(40,ty40),(41,ty41),(43,ty43),(64,ty64),(69,ty69),(106,Vj_),(374,ty374)]
theorem tv45:tbB Tryz.prog tbv45=true:=by kernel_rfl
theorem Pt_ (l:List Bs) (s:Bs) (hl:l.length<=100000:=by first|omega|(simp;omega)|decide +kernel):Fl Tryz.prog gb 257 [.str s] (fun u=> .val u) 1 9 strc l (Gg_ l s):=by
  refine fl_cw tv45 Tryz.func257 rfl Tryz.ntmps257 rfl cb257 (fun _=>rfl) rfl fun w l_l u0 N H hG=>?_;have e0:=Gg_.eq_1 l s;refine gx tv45 10 ?_;refine ef (calll 0 rfl (Vt_ _ _) rfl rfl rfl fun w1=>?_);refine gx tv45 2 ?_;refine cD e0 (fun p3 e4=>?_) (fun p5 e6=>?_)
  · refine gx tv45 6 ?_;refine sw_val (t:=4) (i:=0) rfl rfl ?_;refine gx tv45 2 ?_;refine ro1 (j:=0) rfl rfl rfl ?_;exact (congrArg (fun r:(List Bs)=>r) e4).symm
  refine gx tv45 6 ?_;refine ef (bsl 1 strc [s] tv45 rfl rfl rfl rfl rfl (fun _=>rfl) rfl (by decide) (by decide) rfl fun u7=>?_);refine ef (app tv45 [s] rfl rfl rfl rfl rfl rfl rfl rfl rfl (src_o rfl rfl) (by first|omega|(simp;omega)) rfl fun u8=>?_);refine gx tv45 3 ?_;refine sw_val (t:=4) (i:=0) rfl rfl ?_;refine gx tv45 1 ?_;refine ro1 (j:=0) rfl rfl rfl ?_;exact (congrArg (fun r:(List Bs)=>r) e6).symm
theorem Kl_ (b:BookR) (x:ShopR) (hs:b.shops.length<=1000:=by first|omega|(simp;omega)|decide +kernel):Fn Tryz.prog gb 131 [.agg (BookR.pc b), .agg (ShopR.pc x)] (.tup [.agg (BookR.pc ((By_ b x).1)), .int .i64 ((By_ b x).2)]):=by
  refine fC Tryz.func131 tv45 Tryz.ntmps131 fun w N H hG=>?_;have e0:=By_.eq_1 b x;generalize By_ b x=z at e0 ⊢;refine gm tv45 12 [0,1,2] fun B2=>?_;refine call (shop_check _) rfl rfl fun w5=>?_;have :=shopE_r x;refine gx tv45 9 ?_;refine cN e0 (fun p8 e9=>?_) (fun p12 e13=>?_)
  · refine gm tv45 10 [] fun _=>?_;subst e9;exact qr2
  refine gx tv45 7 ?_;refine call (N4_ _ _) rfl rfl fun w14=>?_;refine gm tv45 16 [3] fun B16=>?_;refine q1g [25,26] rfl (fun hc=>saeq rfl rfl eqg64 (veq64 x ((Ft_ b.shops x.name).getD ShopR.zero))) ⟨(fun hc=>hc),(fun hc=>hc),trivial⟩ rfl rfl rfl fun _=>?_;refine gy tv45 4 ?_;refine cE e13 (fun h17 e21=>?_) (fun h17 e23=>?_)
  · have h18:=bl h17;have h19:=br h17;have p20:=dt h19;refine gm tv45 10 [] fun _=>?_;subst e21;exact qr2
  refine gx tv45 6 ?_;refine cE e23 (fun h24 e25=>?_) (fun h24 e27=>?_)
  · refine gm tv45 10 [] fun _=>?_;subst e25;exact qr2
  refine gx tv45 9 ?_;refine cD e27 (fun p29 e30=>?_) (fun p32 e33=>?_)
  · refine gm tv45 10 [] fun _=>?_;subst e30;exact qr2
  refine gx tv45 8 ?_;refine ef (bsl 4 ShopR.pc [x] tv45 rfl rfl rfl rfl rfl (fun _=>rfl) rfl (by decide) (by decide) rfl fun u34=>?_);refine give 4 rfl ?_;refine ef (bsl 4 (slc ShopR.pc) [b.shops,[x]] tv45 rfl rfl rfl rfl rfl (fun _=>rfl) rfl (by decide) (by decide) rfl fun u35=>?_);refine give 4 rfl ?_;refine call (Qr_ _) rfl rfl fun w36=>?_;have hfl36:([b.shops,[x]].flatten).length=b.shops.length+1:=by simp only[List.flatten_cons,List.flatten_nil,List.length_append,List.length_nil,List.length_cons,Nat.add_zero,Nat.zero_add]
  refine gm tv45 12 [] fun _=>?_;subst e33;exact qr2
theorem J4_ (b:BookR) (x:BindR):Fn Tryz.prog gb 223 [.agg (BookR.pc b), .agg (BindR.pc x)] (.int .i64 (Dg_ b x)):=by
  refine fC Tryz.func223 tv45 Tryz.ntmps223 fun w N H hG=>?_;have e0:=Dg_.eq_1 b x;refine gm tv45 13 [0,1] fun B2=>?_;refine call (idxF_Bind _ _ _ _ (fun z_4:BindR=>decide (x=z_4)) (fun z_4=>Vo_ x z_4)) rfl rfl fun w5=>?_;have hix5:=Hw_ (fun z_4:BindR=>decide (x=z_4)) b.binds;refine gx tv45 4 ?_;exact rt1 rfl rfl (P_ (fun r:Int=> .int .i64 r) e0 (ple rfl))
abbrev R0_:Int->PV:=fun r=> .int .i64 r
def tbv46:Tb:=[(4,ty4),(5,ty5),(9,ty9),(41,ty41),(43,ty43),(64,ty64),(69,ty69),(106,Vj_),(377,ty377)]
theorem tv46:tbB Tryz.prog tbv46=true:=by kernel_rfl
theorem H7_ (b:BookR) (x:BindR) (hb:b.binds.length<=1000:=by first|omega|(simp;omega)|decide +kernel) (hw:x.want.length<=1000:=by first|omega|(simp;omega)|decide +kernel):Fn Tryz.prog gb 134 [.agg (BookR.pc b), .agg (BindR.pc x)] (.tup [.agg (BookR.pc ((Ay_ b x).1)), .int .i64 ((Ay_ b x).2)]):=by
  refine fC Tryz.func134 tv46 Tryz.ntmps134 fun w N H hG=>?_;have e0:=Ay_.eq_1 b x;generalize Ay_ b x=z at e0 ⊢;refine gm tv46 13 [0,1,2] fun B2=>?_;refine call (N4_ _ _) rfl rfl fun w5=>?_;refine gm tv46 17 [3] fun B7=>?_;refine cE e0 (fun h8 e10=>?_) (fun h8 e13=>?_)
  · have h9:=Dk_ h8;refine gm tv46 10 [] fun _=>?_;subst e10;exact qr2
  have h12:=Ct_ h8;refine gx tv46 8 ?_;refine cD e13 (fun p15 e16=>?_) (fun p18 e19=>?_)
  · refine gm tv46 10 [] fun _=>?_;subst e16;exact qr2
  refine gx tv46 8 ?_;refine call (Dq_ _) rfl rfl fun w20=>?_;refine gx tv46 9 ?_;refine cN e19 (fun p23 e24=>?_) (fun p27 e28=>?_)
  · refine gm tv46 10 [] fun _=>?_;subst e24;exact qr2
  refine gx tv46 8 ?_;refine call (N3_ _ _) rfl rfl fun w29=>?_;refine call (Tl_ _) rfl rfl fun w30=>?_;refine gx tv46 11 ?_;refine cN e28 (fun p33 e34=>?_) (fun p37 e38=>?_)
  · refine gm tv46 11 [] fun _=>?_;subst e34;exact qr2
  refine gx tv46 4 ?_;refine cV e38 R0_ (J4_ _ _) rfl fun r hr39 e41 w40=>?_;have hA41:=there_r b x
  (try rw[<- hr39] at hA41)
  refine gx tv46 4 ?_;refine cD e41 (fun p44 e45=>?_) (fun p47 e48=>?_)
  · refine gm tv46 10 [] fun _=>?_;subst e45;exact qr2
  refine gx tv46 9 ?_;refine cD e48 (fun p50 e51=>?_) (fun p53 e54=>?_)
  · refine gm tv46 10 [] fun _=>?_;subst e51;exact qr2
  refine gx tv46 4 ?_;refine aN [4,5,6,7,8,9] 9 mixd ?_;refine gX tv46 [0,1,2] 6 ?_;refine vE 3 rfl (eC (Sw_ _) rfl fun w55=>?_);refine vE 4 rfl (bsl 4 BindR.pc [x] tv46 rfl rfl rfl rfl rfl (fun _=>rfl) rfl (by decide) (by decide) rfl fun u56=>?_);refine vE 5 rfl (So_ 4 rfl (bsl 4 (slc BindR.pc) [b.binds,[x]] tv46 rfl rfl rfl rfl rfl (fun _=>rfl) rfl (by decide) (by decide) rfl fun u57=>?_));refine vE 6 rfl (So_ 4 rfl (Ym_ (eC (Qp_ _) rfl fun w58=>?_)));have hfl58:([b.binds,[x]].flatten).length=b.binds.length+1:=by simp only[List.flatten_cons,List.flatten_nil,List.length_append,List.length_nil,List.length_cons,Nat.add_zero,Nat.zero_add]
  refine gX tv46 [7] 1 ?_;refine vT 8 rfl (sO tv46 ?_);refine vD ?_;refine gm tv46 9 [] fun _=>?_;subst e54;exact qr2
theorem J3_ (b:BookR) (shop:Bs) (key:Bs) (h:List Pair) (hb:b.binds.length<=1000:=by first|omega|(simp;omega)|decide +kernel) (hk:key.length<4294967281:=by first|omega|(simp;omega)|decide +kernel) (hr:∀ y∈b.binds,y.key.length<4294967281:=by first|assumption|decide +kernel):Fn Tryz.prog gb 198 [.agg (BookR.pc b), .str shop, .str key, .sl Pair.pc h] (.tup [.sl strc ((A9_ b shop key h).1), .sl strc ((A9_ b shop key h).2.1), .int .i64 ((A9_ b shop key h).2.2)]):=by
  refine fC Tryz.func198 tv46 Tryz.ntmps198 fun w N H hG=>?_;have e0:=A9_.eq_1 b shop key h;generalize A9_ b shop key h=z at e0 ⊢;refine gm tv46 13 [0] fun B2=>?_;refine call (N4_ _ _) rfl rfl fun w3=>?_;refine gm tv46 17 [1] fun B5=>?_;refine cE e0 (fun h6 e8=>?_) (fun h6 e10=>?_)
  · have h7:=Dk_ h6;refine gx tv46 11 ?_;subst e8;exact rt3 rfl rfl (E0_ (A_ S_ (A_ S_ (A_ (ple rfl) Aa_))))
  have h9:=Ct_ h6;refine gx tv46 8 ?_;refine cD e10 (fun p12 e13=>?_) (fun p15 e16=>?_)
  · refine gx tv46 1 ?_;refine aN [2,3,4,5,6,7] 6 mixd ?_;refine gX tv46 [0,1,3] 3 ?_;refine vE 2 rfl (bsl 2 strc [((Ft_ b.shops shop).getD ShopR.zero).to'] tv46 rfl rfl rfl rfl rfl (fun _=>rfl) rfl (by decide) (by decide) rfl fun u14=>?_);refine gX tv46 [4,5] 0 ?_;refine vD ?_;refine gx tv46 1 ?_;refine givec 2 rfl ?_;refine gx tv46 4 ?_;subst e13;exact rt3 rfl rfl (E0_ (A_ S_ (A_ (ple rfl) (A_ (ple rfl) Aa_))))
  refine gx tv46 22 ?_;refine sw_own (t:=13) (k:=1) (e:=9) 2 strc rfl rfl ?_;refine sw_own (t:=14) (k:=1) (e:=9) 3 strc rfl rfl ?_;refine loop (ι:=Nat×(List Bs)×(List Bs)×Value×Value) [1,2,3,8,9,10,11,34,35] [0,1] (fun ⟨k,queues,places,u_queues,u_places⟩=>[(36, .int .i64 (k:Int)),(13, .osl 2),(14, .osl 3)]) (fun ⟨k,queues,places,u_queues,u_places⟩=>[(2, .arr u_queues 1 9 strc queues),(3, .arr u_places 1 9 strc places)]) (fun ⟨k,queues,places,u_queues,u_places⟩=>k<=b.binds.length/\z=Al_ b shop key h (b.binds.drop k) queues places/\queues.length<=k/\places.length<=k) (fun ⟨k,queues,places,u_queues,u_places⟩=>b.binds.length-k) ⟨0,[],[],(.slice none 0 0),(.slice none 0 0)⟩ ⟨rfl,rfl,rfl,trivial⟩ ⟨rfl,rfl,trivial⟩ ?_ ?_
  · exact⟨Nat.zero_le _,e16,(by first|omega|(simp;done)|(simp;omega))⟩
  rintro⟨k,queues,places,u_queues,u_places⟩ ⟨hp17_1,hp17_2,hp17_3⟩;refine gx tv46 6 ?_;refine cn rfl (fun p19=>?_) fun p52=>?_
  · have e20:=B0_ (f:=fun zz=>Al_ b shop key h zz queues places) hp17_2 (Fz_ (by omega)) (Al_.eq_2 _ _ _ _ _ _ _ _);have hc21:=getG (xs:=b.binds) (k:=k) (by omega);have hr_hc21:=hr (gt b.binds k) (List.mem_of_getElem? hc21);refine gx tv46 6 ?_;refine q1 (qidx tv46 k rfl rfl rfl hc21 rfl rfl rfl rfl) rfl fun w22=>?_;refine gm tv46 7 [4] fun B24=>?_;obtain⟨o,e_o,q_o⟩:=Gx_ e20;refine G4_ (ι:=Bool) [1,2,3,8,9,10,11,13,14,16,34,35,36] [0,1,2,3,4] (fun v=>[(44, .bool v)]) (fun v=>[]) (fun v=>o=v) ?_ ?_
    · refine gx tv46 9 ?_;refine cN e_o (fun p27 e28=>?_) (fun p30 e31=>?_)
      · refine gx tv46 1 ?_;refine nX (!decide (((gt b.binds k).shop)=shop)) ?_ ⟨rfl,trivial⟩ trivial;exact e28
      refine gx tv46 4 ?_;refine call (N3_ _ _) rfl rfl fun w32=>?_;refine gx tv46 2 ?_;refine call (Sf_ _ _ _ (hrk:=by simp only[J8_];omega)) rfl rfl fun w33=>?_;refine gx tv46 3 ?_;refine nX (!(O3_ (J8_ (gt b.binds k) (((Ft_ b.shops shop).getD ShopR.zero).sort)) key h)) ?_ ⟨rfl,trivial⟩ trivial;exact e31
    rintro v hp34;have e35:=Jx_ q_o hp34;refine gx tv46 1 ?_;refine cE e35 (fun h36 e37=>?_) (fun h36 e38=>?_)
    · refine gy tv46 8 ?_;refine next ⟨(k+1),queues,places,(u_queues),(u_places)⟩ rfl rfl ⟨rfl,rfl,rfl,trivial⟩ ⟨rfl,rfl,trivial⟩ ?_ ?_
      · (try simp only[]);omega
      exact⟨by (try simp only[]);omega,e37,⟨by (try simp only[]);omega,by (try simp only[]);omega⟩⟩
    refine gx tv46 7 ?_;refine cE e38 (fun h39 e40=>?_) (fun h39 e46=>?_)
    · refine gx tv46 4 ?_;refine ef (ecallw (Pt_ _ _) rfl rfl rfl rfl rfl rfl ?_);generalize hr43:Gg_ places ((gt b.binds k).to')=r;intro u41 w42;have e44:=e40.trans (Co_ hr43.symm);have hr43:=hr43.symm;have hA44:=put_len places ((gt b.binds k).to')
      (try rw[<- hr43] at hA44)
      refine gy tv46 9 ?_;refine lj_osl (t:=14) 3 rfl rfl ?_;refine next ⟨(k+1),queues,r,(u_queues),(u41)⟩ rfl rfl ⟨rfl,rfl,rfl,trivial⟩ ⟨rfl,rfl,trivial⟩ ?_ ?_
      · (try simp only[]);omega
      exact⟨by (try simp only[]);omega,e44,⟨by (try simp only[]);omega,by (try simp only[]);omega⟩⟩
    refine gx tv46 4 ?_;refine ef (ecallw (Pt_ _ _) rfl rfl rfl rfl rfl rfl ?_);generalize hr49:Gg_ queues ((gt b.binds k).to')=r1;intro u47 w48;have e50:=e46.trans (Co_ hr49.symm);have hr49:=hr49.symm;have hA50:=put_len queues ((gt b.binds k).to')
    (try rw[<- hr49] at hA50)
    refine gy tv46 9 ?_;refine lj_osl (t:=13) 2 rfl rfl ?_;refine next ⟨(k+1),r1,places,(u47),(u_places)⟩ rfl rfl ⟨rfl,rfl,rfl,trivial⟩ ⟨rfl,rfl,trivial⟩ ?_ ?_
    · (try simp only[]);omega
    exact⟨by (try simp only[]);omega,e50,⟨by (try simp only[]);omega,by (try simp only[]);omega⟩⟩
  have e53:=B0_ (f:=fun zz=>Al_ b shop key h zz queues places) hp17_2 (F0_ (by omega)) (Al_.eq_1 _ _ _ _ _ _);refine gx tv46 14 ?_;refine givec 2 rfl ?_;refine givec 3 rfl ?_;refine gx tv46 2 ?_;subst e53;exact qr3
abbrev ty36:TI:=⟨.slc 73,1,24,[.sl DeedR.pc []]⟩
def tbv42:Tb:=[(36,ty36),(73,ty73)]
theorem tv42:tbB Tryz.prog tbv42=true:=by kernel_rfl
theorem W0_ (l:List DeedR):Fn Tryz.prog gb 12 [.sl DeedR.pc l] (.bool (Ju_ l)):=by
  refine fC Tryz.func12 tv42 Tryz.ntmps12 fun w N H hG=>?_;have l_l:l.length<=140737488355328:=w.1.1;have e0:=Ju_.eq_1 l;generalize Ju_ l=z at e0 ⊢;refine gx tv42 14 ?_;refine loop (ι:=Nat) [0,5,6] [] (fun k=>[(7, .int .i64 (k:Int))]) (fun k=>[]) (fun k=>k<=l.length/\z=D1_ l (l.drop k)) (fun k=>l.length-k) 0 ⟨rfl,trivial⟩ trivial ?_ ?_
  · exact⟨Nat.zero_le _,e0⟩
  rintro k ⟨hp1_1,hp1_2⟩;refine gx tv42 6 ?_;refine cn rfl (fun p3=>?_) fun p15=>?_
  · have e4:=B0_ (f:=fun zz=>D1_ l zz) hp1_2 (Fz_ (by omega)) (D1_.eq_2 _ _ _);have hc5:=getG (xs:=l) (k:=k) (by omega);refine gx tv42 6 ?_;refine q1 (qidx tv42 k rfl rfl rfl hc5 rfl rfl rfl rfl) rfl fun w6=>?_;refine gm tv42 8 [0] fun B8=>?_;refine call (l22_Light _) rfl rfl fun w9=>?_;have hld9:=S9_ (gt l k);refine gx tv42 3 ?_;refine cE e4 (fun h10 e12=>?_) (fun h10 e14=>?_)
    · have h11:=Dk_ h10;refine gx tv42 11 ?_;subst e12;exact qr1
    have h13:=Ct_ h10;refine gy tv42 7 ?_;refine next (k+1) rfl rfl ⟨rfl,trivial⟩ trivial ?_ ?_
    · (try simp only[]);omega
    exact⟨by (try simp only[]);omega,e14⟩
  have e16:=B0_ (f:=fun zz=>D1_ l zz) hp1_2 (F0_ (by omega)) (D1_.eq_1 _);refine gx tv42 14 ?_;subst e16;exact qr1
def tbv47:Tb:=[(9,ty9),(43,ty43),(64,ty64),(69,ty69),(73,ty73),(106,Vj_)]
theorem tv47:tbB Tryz.prog tbv47=true:=by kernel_rfl
theorem l14_awake:Fn Tryz.prog gb 319 [] (.bool true):=by
  refine fC Tryz.func319 tv47 Tryz.ntmps319 fun w N H hG=>?_;refine gx tv47 9 ?_;refine call (Kl_ (⟨[],[]⟩:BookR) (⟨[97],1,[]⟩:ShopR)) rfl rfl fun w1=>?_;refine gm tv47 12 [0] fun B3=>?_;refine call (H7_ _ (⟨[97],[113],false,[],[],false⟩:BindR)) rfl rfl fun w4=>?_;refine gm tv47 10 [] fun _=>?_;refine call (H7_ _ (⟨[97],[113],false,[120],[],false⟩:BindR)) rfl rfl fun w6=>?_;refine gm tv47 10 [] fun _=>?_;refine call (Fn.le (J3_ _ _ _ []) (A_ (ple rfl) (A_ (ple rfl) (A_ (ple rfl) (A_ S_ Aa_)))) (ple rfl) rfl) rfl rfl fun w8=>?_;refine gx tv47 11 ?_;refine call L3_ rfl rfl fun w9=>?_;refine gx tv47 1 ?_;refine ungd rfl rfl ?_;refine call l10_Awake rfl rfl fun w10=>?_;refine gx tv47 2 ?_;refine ungd rfl rfl ?_;refine gx tv47 1 ?_;refine ungd rfl rfl ?_;refine gx tv47 1 ?_;refine so_rt (t:=37) (p':= .bool true) (ple (congrArg PV.bool (show decide (((Ay_ ((Ay_ ((By_ (⟨[],[]⟩:BookR) (⟨[97],1,[]⟩:ShopR)).1) (⟨[97],[113],false,[],[],false⟩:BindR)).1) (⟨[97],[113],false,[120],[],false⟩:BindR)).2)=0)=true by decide +kernel))) rfl ?_;refine gx tv47 2 ?_;refine ungd rfl rfl ?_;refine gx tv47 1 ?_;refine ungd rfl rfl ?_;refine gx tv47 1 ?_;refine so_rt (t:=41) (p':= .bool true) (ple (congrArg PV.bool (show decide (((A9_ ((Ay_ ((Ay_ ((By_ (⟨[],[]⟩:BookR) (⟨[97],1,[]⟩:ShopR)).1) (⟨[97],[113],false,[],[],false⟩:BindR)).1) (⟨[97],[113],false,[120],[],false⟩:BindR)).1) [97] [] []).2.2)=0)=true by decide +kernel))) rfl ?_;refine gx tv47 2 ?_;refine ungd rfl rfl ?_;refine gx tv47 1 ?_;refine ungd rfl rfl ?_;refine ef (bsl 1 strc [[113]] tv47 rfl rfl rfl rfl rfl (fun _=>rfl) rfl (by decide) (by decide) rfl fun u11=>?_);refine ungd rfl rfl ?_;refine ef (calll 1 rfl (eq_Str _ _) rfl rfl rfl fun w12=>?_);refine so_rt (t:=46) (p':= .bool true) (ple (congrArg PV.bool (show decide (((A9_ ((Ay_ ((Ay_ ((By_ (⟨[],[]⟩:BookR) (⟨[97],1,[]⟩:ShopR)).1) (⟨[97],[113],false,[],[],false⟩:BindR)).1) (⟨[97],[113],false,[120],[],false⟩:BindR)).1) [97] [] []).1)=[[113]])=true by decide +kernel))) rfl ?_;refine gx tv47 2 ?_;refine ungd rfl rfl ?_;refine gx tv47 1 ?_;refine ungd rfl rfl ?_;refine gx tv47 1 ?_;refine ungd rfl rfl ?_;refine gx tv47 1 ?_;refine so_rt (t:=51) (p':= .bool true) (ple (congrArg PV.bool (show decide ((((A9_ ((Ay_ ((Ay_ ((By_ (⟨[],[]⟩:BookR) (⟨[97],1,[]⟩:ShopR)).1) (⟨[97],[113],false,[],[],false⟩:BindR)).1) (⟨[97],[113],false,[120],[],false⟩:BindR)).1) [97] [] []).2.1).length:Int)=0)=true by decide +kernel))) rfl ?_;refine gx tv47 5 ?_;refine rt1 rfl rfl (ple ?_);exact congrArg PV.bool (by first|rfl|decide +kernel)
theorem l14_Awake:Fn Tryz.prog gb 286 [] (.bool true):=by
  refine fC Tryz.func286 tv47 Tryz.ntmps286 fun w N H hG=>?_;refine gx tv47 7 ?_;refine call l14_awake rfl rfl fun w1=>?_;refine gx tv47 4 ?_;refine rt1 rfl rfl (ple ?_)
  rfl
theorem l22_awake:Fn Tryz.prog gb 242 [] (.bool true):=by
  refine fC Tryz.func242 tv47 Tryz.ntmps242 fun w N H hG=>?_;refine gx tv47 8 ?_;refine call (deed_Bytes (⟨11,1,(⟨[],0,[]⟩:ShopR),(⟨[],0,0,[]⟩:QueueR),(⟨[],[],false,[],[],false⟩:BindR),[],0,0,0,0,0,(⟨0,[],[],[],[],0,0⟩:Mail),[]⟩:DeedR)) rfl rfl fun w1=>?_;have :=T4_ (d:=(⟨11,1,(⟨[],0,[]⟩:ShopR),(⟨[],0,0,[]⟩:QueueR),(⟨[],[],false,[],[],false⟩:BindR),[],0,0,0,0,0,(⟨0,[],[],[],[],0,0⟩:Mail),[]⟩:DeedR)) (by first|omega|decide);have :=Yi_ (⟨11,1,(⟨[],0,[]⟩:ShopR),(⟨[],0,0,[]⟩:QueueR),(⟨[],[],false,[],[],false⟩:BindR),[],0,0,0,0,0,(⟨0,[],[],[],[],0,0⟩:Mail),[]⟩:DeedR);refine gx tv47 9 ?_;refine call Q9_ rfl rfl fun w2=>?_;refine gx tv47 1 ?_;refine ungd rfl rfl ?_;refine call l14_Awake rfl rfl fun w3=>?_;refine gx tv47 2 ?_;refine ungd rfl rfl ?_;refine gx tv47 1 ?_;refine ungd rfl rfl ?_;refine gx tv47 1 ?_;refine so_rt (t:=14) (p':= .bool true) (ple (congrArg PV.bool (show decide ((F4_ (⟨11,1,(⟨[],0,[]⟩:ShopR),(⟨[],0,0,[]⟩:QueueR),(⟨[],[],false,[],[],false⟩:BindR),[],0,0,0,0,0,(⟨0,[],[],[],[],0,0⟩:Mail),[]⟩:DeedR))=0)=true by decide +kernel))) rfl ?_;refine gx tv47 2 ?_;refine ungd rfl rfl ?_;refine gx tv47 1 ?_;refine ungd rfl rfl ?_;refine gx tv47 1 ?_;refine ungd rfl rfl ?_;refine gx tv47 1 ?_;refine so_rt (t:=19) (p':= .bool true) (ple (congrArg PV.bool (show decide (((A5_ (⟨11,1,(⟨[],0,[]⟩:ShopR),(⟨[],0,0,[]⟩:QueueR),(⟨[],[],false,[],[],false⟩:BindR),[],0,0,0,0,0,(⟨0,[],[],[],[],0,0⟩:Mail),[]⟩:DeedR)).length:Int)=9)=true by decide +kernel))) rfl ?_;refine gx tv47 5 ?_;refine rt1 rfl rfl (ple ?_);exact congrArg PV.bool (by first|rfl|decide +kernel)
theorem l22_Awake:Fn Tryz.prog gb 182 [] (.bool true):=by
  refine fC Tryz.func182 tv47 Tryz.ntmps182 fun w N H hG=>?_;refine gx tv47 7 ?_;refine call l22_awake rfl rfl fun w1=>?_;refine gx tv47 4 ?_;refine rt1 rfl rfl (ple ?_)
  rfl
abbrev R1_:Mail->PV:=fun r=> .agg (Mail.pc r)
theorem cb212:R_ Tryz.prog 212:=L_ Tryz.func212 (by kernel_rfl) (by kernel_rfl)
theorem cb215:R_ Tryz.prog 215:=L_ Tryz.func215 (by kernel_rfl) (by kernel_rfl)
theorem cb255:R_ Tryz.prog 255:=L_ Tryz.func255 (by kernel_rfl) (by kernel_rfl)
theorem cb271:R_ Tryz.prog 271:=L_ Tryz.func271 (by kernel_rfl) (by kernel_rfl)
theorem cb303:R_ Tryz.prog 303:=L_ Tryz.func303 (by kernel_rfl) (by kernel_rfl)
theorem cb323:R_ Tryz.prog 323:=L_ Tryz.func323 (by kernel_rfl) (by kernel_rfl)
abbrev ty24:TI:=⟨.agg [(0,1),(1,1),(2,1)],3,32,[.int .u64 0, .int .u8 0, .str []]⟩
abbrev ty31:TI:=⟨.slc 129,1,24,[.sl PlaceR.pc []]⟩
abbrev ty32:TI:=⟨.slc 3,1,24,[.sl i64c []]⟩
abbrev ty33:TI:=⟨.slc 146,1,24,[.sl GrantR.pc []]⟩
abbrev ty35:TI:=⟨.agg [(0,1),(1,1),(2,1),(3,1),(4,1)],5,88,[.int .i64 0, .int .i64 0, .sl PlaceR.pc [], .sl i64c [], .sl GrantR.pc []]⟩
abbrev ty44:TI:=⟨.slc 242,1,24,[.sl RowR.pc []]⟩
abbrev ty45:TI:=⟨.slc 71,1,24,[.sl Mail.pc []]⟩
abbrev ty51:TI:=⟨.slc 24,1,24,[.sl NoteR.pc []]⟩
abbrev ty53:TI:=⟨.agg [(0,1),(1,1)],2,32,[.int .u64 0, .sl NoteR.pc []]⟩
abbrev ty75:TI:=⟨.agg [(0,7),(7,1),(8,1)],9,104,[.int .u64 0, .str [], .str [], .sl Pair.pc [], .str [], .int .u64 0, .int .u8 0, .bool false, .bool false]⟩
abbrev ty125:TI:=⟨.int .u32,1,4,[.int .u32 0]⟩
abbrev Zr_:TI:=⟨.agg [(0,1),(1,1)],2,8,[.int .u8 0, .int .u32 0]⟩
abbrev Oy_:TI:=⟨.agg [(0,1),(1,2),(3,1),(4,1)],5,40,[.str [], .int .u8 0, .int .u32 0, .int .i64 0, .int .u64 0]⟩
abbrev ty146:TI:=⟨.agg [(0,1),(1,1),(2,1)],3,24,[.int .i64 0, .int .i64 0, .int .i64 0]⟩
abbrev ty205:TI:=⟨.oth,1,8,[.val .nilFunc]⟩
abbrev X4_:TI:=⟨.slc 75,1,24,[.sl ItemR.pc []]⟩
abbrev Sl_:TI:=⟨.agg [(0,1)],1,24,[.sl ItemR.pc []]⟩
abbrev ty242:TI:=⟨.agg [(0,4),(4,1)],5,72,[.str [], .int .u64 0, .int .u64 0, .str [], .sl ItemR.pc []]⟩
abbrev ty322:TI:=⟨.slc 51,1,24,[.sl (slc NoteR.pc) []]⟩
abbrev ty360:TI:=⟨.slc 44,1,24,[.sl (slc RowR.pc) []]⟩
abbrev ty399:TI:=⟨.slc 238,1,24,[.sl (slc ItemR.pc) []]⟩
abbrev ty408:TI:=⟨.slc 45,1,24,[.sl (slc Mail.pc) []]⟩
def tbv90:Tb:=[(3,ty3),(4,ty4),(5,ty5),(9,ty9),(22,ty22),(24,ty24),(31,ty31),(32,ty32),(33,ty33),(35,ty35),(40,ty40),(44,ty44),(45,ty45),(51,ty51),(53,ty53),(64,ty64),(67,ty67),(71,ty71),(75,ty75),(125,ty125),(127,Zr_),(129,Oy_),(146,ty146),(205,ty205),(238,X4_),(240,Sl_),(242,ty242),(322,ty322),(360,ty360),(399,ty399),(408,ty408)]
theorem tv90:tbB Tryz.prog tbv90=true:=by kernel_rfl
theorem Gf_ (n:Int) (least:Int) (most:Int):Fn Tryz.prog gb 270 [.int .i64 n, .int .i64 least, .int .i64 most] (.bool (Cl_ n least most)):=by
  refine fC Tryz.func270 tv90 Tryz.ntmps270 fun w N H hG=>?_;have e0:=Cl_.eq_1 n least most;refine gy tv90 19 ?_;exact rt1 rfl rfl (P_ (fun r:Bool=> .bool r) e0 (ple rfl))
theorem Gc_ (a:LabelR) (b:LabelR):Fn Tryz.prog gb 178 [.agg (LabelR.pc a), .agg (LabelR.pc b)] (.bool (F7_ a b)):=by
  refine fC Tryz.func178 tv90 Tryz.ntmps178 fun w N H hG=>?_;have e0:=F7_.eq_1 a b;have :=wr_u32 ((BitVec.ofInt (IntKind.bits .u32) a.set_ &&& ~~~ BitVec.ofInt (IntKind.bits .u32) b.set_).toNat);refine gmy tv90 26 [0,1] fun B2=>?_;exact rt1 rfl rfl (P_ (fun r:Bool=> .bool r) e0 (ple rfl))
theorem D7_ (p:PolicyR) (i:Int):Fn Tryz.prog gb 209 [.agg (PolicyR.pc p), .int .i64 i] (.bool (Ar_ p i)):=by
  refine fC Tryz.func209 tv90 Tryz.ntmps209 fun w N H hG=>?_;have p_places_l:p.places.length<=140737488355328:=w.1.2.2.1.1;have p_slots_l:p.slots.length<=140737488355328:=w.1.2.2.2.1.1;have p_grants_l:p.grants.length<=140737488355328:=w.1.2.2.2.2.1.1;have i_r:-9223372036854775808<=i/\i<=9223372036854775807:=w.2.1;have e0:=Ar_.eq_1 p i;refine gmy tv90 13 [0] fun B2=>?_;refine call (Gf_ _ _ _) rfl rfl fun w3=>?_;refine gx tv90 4 ?_;exact rt1 rfl rfl (P_ (fun r:Bool=> .bool r) e0 (ple rfl))
theorem Ry_ (x:PlaceR) (x1:Bs):Fn Tryz.prog gb 217 [.agg (PlaceR.pc x), .el [.str x1] 0] (.bool (Iy_ x x1)):=by
  refine fC Tryz.func217 tv90 Tryz.ntmps217 fun w N H hG=>?_;have e0:=Iy_.eq_1 x x1;refine gm tv90 16 [0] fun B2=>?_;exact rt1 rfl rfl (P_ (fun r:Bool=> .bool r) e0 (ple rfl))
theorem Px_ (x:GrantR) (x1:Int) (x2:Int):Fn Tryz.prog gb 211 [.agg (GrantR.pc x), .el [.int .i64 x1] 0, .el [.int .i64 x2] 0] (.bool (G8_ x x1 x2)):=by
  refine fC Tryz.func211 tv90 Tryz.ntmps211 fun w N H hG=>?_;have e0:=G8_.eq_1 x x1 x2;refine gmy tv90 22 [0] fun B2=>?_;exact rt1 rfl rfl (P_ (fun r:Bool=> .bool r) e0 (ple rfl))
theorem Na_ (n:A4_):Fn Tryz.prog gb 63 [.agg (A4_.pc n)] (.int .u64 (Ij_ n)):=by
  refine fC Tryz.func63 tv90 Tryz.ntmps63 fun w N H hG=>?_;have e0:=Ij_.eq_1 n;refine gm tv90 14 [0] fun B2=>?_;exact rt1 rfl rfl (P_ (fun r:Int=> .int .u64 r) e0 (ple rfl))
theorem Sr_ (p:PolicyR) (tick:Int) (hs:0<p.slots.length:=by omega):Fn Tryz.prog gb 260 [.agg (PolicyR.pc p), .int .u64 tick] (.int .u64 (Nq_ p tick)):=by
  refine fC Tryz.func260 tv90 Tryz.ntmps260 fun w N H hG=>?_;have p_places_l:p.places.length<=140737488355328:=w.1.2.2.1.1;have p_slots_l:p.slots.length<=140737488355328:=w.1.2.2.2.1.1;have p_grants_l:p.grants.length<=140737488355328:=w.1.2.2.2.2.1.1;have tick_r:0<=tick/\tick<=18446744073709551615:=w.2.1;have e0:=Nq_.eq_1 p tick;refine gm tv90 12 [0] fun B2=>?_;refine q1 (qconv tv90 rfl rfl rfl rfl (J1_ (by omega))) rfl fun w3=>?_;refine gy tv90 5 ?_;exact rt1 rfl rfl (P_ (fun r:Int=> .int .u64 r) e0 (ple rfl))
theorem F2_ (m:Mail) (hh:m.head.length<=1000000:=by first|omega|(simp;omega)|decide +kernel):Fn Tryz.prog gb 118 [.agg (Mail.pc m)] (.agg (Mail.pc (H_ m))):=by
  refine fC Tryz.func118 tv90 Tryz.ntmps118 fun w N H hG=>?_;have e0:=H_.eq_1 m;refine gm tv90 10 [0,1] fun B2=>?_;refine call (S0_ _) rfl rfl fun w4=>?_;refine gm tv90 11 [] fun _=>?_;exact rt1 rfl rfl (P_ (fun r:Mail=> .agg (Mail.pc r)) e0 (ple rfl))
theorem Kf_ (m:Mail):Fn Tryz.prog gb 228 [.agg (Mail.pc m)] (.int .i64 (Gz_ m)):=by
  refine fC Tryz.func228 tv90 Tryz.ntmps228 fun w N H hG=>?_;have e0:=Gz_.eq_1 m;refine gm tv90 9 [0] fun B2=>?_;refine call (K2_ _) rfl rfl fun w3=>?_;have :=Ex_ m;refine gx tv90 15 ?_;exact rt1 rfl rfl (P_ (fun r:Int=> .int .i64 r) e0 (ple rfl))
theorem Go_ (x:ItemR) (hh:x.mail.head.length<=1000000:=by omega):Fn Tryz.prog gb 230 [.agg (ItemR.pc x)] (.agg (ItemR.pc (B7_ x))):=by
  refine fC Tryz.func230 tv90 Tryz.ntmps230 fun w N H hG=>?_;have e0:=B7_.eq_1 x;refine gm tv90 10 [0,1] fun B2=>?_;refine cV e0 R1_ (F2_ _) rfl fun r hr4 e6 w5=>?_;refine gm tv90 11 [] fun _=>?_;exact rt1 rfl rfl (P_ (fun r:ItemR=> .agg (ItemR.pc r)) e6 (ple rfl))
theorem Y1_ (x0:Mail):Fn Tryz.prog gb 263 [.agg (Mail.pc x0)] (.bool (U0_ x0)):=by
  refine fC Tryz.func263 tv90 Tryz.ntmps263 fun w N H hG=>?_;have e0:=U0_.eq_1 x0;refine gm tv90 12 [0] fun B2=>?_;exact rt1 rfl rfl (P_ (fun r:Bool=> .bool r) e0 (ple rfl))
theorem Y2_ (x:ItemR) (x1:Int):Fn Tryz.prog gb 302 [.agg (ItemR.pc x), .el [.int .u64 x1] 0] (.bool (Oh_ x x1)):=by
  refine fC Tryz.func302 tv90 Tryz.ntmps302 fun w N H hG=>?_;have e0:=Oh_.eq_1 x x1;refine gm tv90 17 [0] fun B2=>?_;exact rt1 rfl rfl (P_ (fun r:Bool=> .bool r) e0 (ple rfl))
theorem I7_ (l:LineR):Fn Tryz.prog gb 144 [.agg (LineR.pc l)] (.int .i64 (Eb_ l)):=by
  refine fC Tryz.func144 tv90 Tryz.ntmps144 fun w N H hG=>?_;have e0:=Eb_.eq_1 l;refine gm tv90 15 [0] fun B2=>?_;exact rt1 rfl rfl (P_ (fun r:Int=> .int .i64 r) e0 (ple rfl))
theorem Uy_ (m:Mail) (x1:Int):Fn Tryz.prog gb 269 [.agg (Mail.pc m), .el [.int .u64 x1] 0] (.bool (O7_ m x1)):=by
  refine fC Tryz.func269 tv90 Tryz.ntmps269 fun w N H hG=>?_;have e0:=O7_.eq_1 m x1;refine gmy tv90 21 [0] fun B2=>?_;exact rt1 rfl rfl (P_ (fun r:Bool=> .bool r) e0 (ple rfl))
theorem Oi_ (x:ItemR):Fn Tryz.prog gb 301 [.agg (ItemR.pc x), .el [.fn 263 [] []] 0] (.bool (Gw_ x)):=by
  refine fC Tryz.func301 tv90 Tryz.ntmps301 fun w N H hG=>?_;have e0:=Gw_.eq_1 x;refine gmy tv90 15 [0] fun B2=>?_;refine callgF rfl (fun hc=>(Y1_ _)) rfl ⟨(fun hc=>hc),(fun hc=>hc),trivial⟩ rfl rfl fun _=>?_;refine gy tv90 5 ?_;exact rt1 rfl rfl (P_ (fun r:Bool=> .bool r) e0 (ple rfl))
theorem Nm_ (x:ItemR) (x1:Int):Fn Tryz.prog gb 301 [.agg (ItemR.pc x), .el [.fn 269 [] [.el [.int .u64 x1] 0]] 0] (.bool (Gd_ x x1)):=by
  refine fC Tryz.func301 tv90 Tryz.ntmps301 fun w N H hG=>?_;have e0:=Gd_.eq_1 x x1;refine gmy tv90 15 [0] fun B2=>?_;refine callgF rfl (fun hc=>(Uy_ _ _)) rfl ⟨(fun hc=>hc),(fun hc=>hc),trivial⟩ rfl rfl fun _=>?_;refine gy tv90 5 ?_;exact rt1 rfl rfl (P_ (fun r:Bool=> .bool r) e0 (ple rfl))
theorem S6_ (s:List PlaceR) (f:FuncId) (f_fst f_cap:List PV) (f_p:PlaceR->Bool) (f_h:∀ x,Fn Tryz.prog gb f (argsP.apL f_fst ((.agg (PlaceR.pc x))::f_cap)) (.bool (f_p x))):Fn Tryz.prog gb 216 [.sl PlaceR.pc s, .fn f f_fst f_cap] (.int .i64 (idxP f_p s)):=by
  refine fC Tryz.func216 tv90 Tryz.ntmps216 fun w N H hG=>?_;have s_l:s.length<=140737488355328:=w.1.1;refine gx tv90 14 ?_;refine loop (ι:=Nat) [0,1,6,7] [] (fun k=>[(8, .int .i64 (k:Int))]) (fun k=>[]) (fun k=>k<=s.length/\idxP f_p s=idxF f_p k (s.drop k)) (fun k=>s.length-k) 0 ⟨rfl,trivial⟩ trivial ?_ ?_
  · exact⟨Nat.zero_le _,rfl⟩
  rintro k hp1;obtain⟨hk1,hk2⟩:=hp1;refine gx tv90 6 ?_;refine cnd rfl (fun h2=>?_) (fun h2=>?_)
  · have p3:=dt h2;obtain⟨c4,hc5⟩:=getE (xs:=s) (m:=k) (by omega);refine gx tv90 15 ?_;refine q1 (qidx tv90 k rfl rfl rfl hc5 rfl rfl rfl rfl) rfl fun w6=>?_;refine gx tv90 1 ?_;refine call (f_h c4) rfl rfl fun w7=>?_;refine gx tv90 2 ?_;refine cnd rfl (fun h8=>?_) (fun h8=>?_)
    · refine gx tv90 12 ?_;refine rt1 rfl rfl (ple ?_);exact congrArg (PV.int .i64) (Lc_ hk2 (Dj_ hc5) (by assumption)).symm
    refine gy tv90 7 ?_;refine next (k+1) rfl rfl ⟨rfl,trivial⟩ trivial ?_ ?_
    · omega
    exact⟨by omega,Jf_ hk2 (Dj_ hc5) (by assumption)⟩
  have p9:=df h2;refine gx tv90 11 ?_;refine rt1 rfl rfl (ple ?_);exact congrArg (PV.int .i64) (Lb_ hk2 (by omega)).symm
theorem cF_Place (s:List PlaceR) (f:FuncId) (f_fst f_cap:List PV) (f_p:PlaceR->Bool) (f_h:∀ x,Fn Tryz.prog gb f (argsP.apL f_fst ((.agg (PlaceR.pc x))::f_cap)) (.bool (f_p x))):Fn Tryz.prog gb 358 [.sl PlaceR.pc s, .fn f f_fst f_cap] (.bool (decide (0<=idxP f_p s))):=by
  refine fC Tryz.func358 tv90 Tryz.ntmps358 fun w N H hG=>?_;refine gx tv90 9 ?_;refine call (S6_ _ f f_fst f_cap f_p f_h) rfl rfl fun w1=>?_;have hix1:=Hw_ f_p s;refine gx tv90 5 ?_;refine rt1 rfl rfl (ple ?_)
  rfl
theorem S5_ (s:List GrantR) (f:FuncId) (f_fst f_cap:List PV) (f_p:GrantR->Bool) (f_h:∀ x,Fn Tryz.prog gb f (argsP.apL f_fst ((.agg (GrantR.pc x))::f_cap)) (.bool (f_p x))):Fn Tryz.prog gb 210 [.sl GrantR.pc s, .fn f f_fst f_cap] (.int .i64 (idxP f_p s)):=by
  refine fC Tryz.func210 tv90 Tryz.ntmps210 fun w N H hG=>?_;have s_l:s.length<=140737488355328:=w.1.1;refine gx tv90 14 ?_;refine loop (ι:=Nat) [0,1,6,7] [] (fun k=>[(8, .int .i64 (k:Int))]) (fun k=>[]) (fun k=>k<=s.length/\idxP f_p s=idxF f_p k (s.drop k)) (fun k=>s.length-k) 0 ⟨rfl,trivial⟩ trivial ?_ ?_
  · exact⟨Nat.zero_le _,rfl⟩
  rintro k hp1;obtain⟨hk1,hk2⟩:=hp1;refine gx tv90 6 ?_;refine cnd rfl (fun h2=>?_) (fun h2=>?_)
  · have p3:=dt h2;obtain⟨c4,hc5⟩:=getE (xs:=s) (m:=k) (by omega);refine gx tv90 15 ?_;refine q1 (qidx tv90 k rfl rfl rfl hc5 rfl rfl rfl rfl) rfl fun w6=>?_;refine gx tv90 1 ?_;refine call (f_h c4) rfl rfl fun w7=>?_;refine gx tv90 2 ?_;refine cnd rfl (fun h8=>?_) (fun h8=>?_)
    · refine gx tv90 12 ?_;refine rt1 rfl rfl (ple ?_);exact congrArg (PV.int .i64) (Lc_ hk2 (Dj_ hc5) (by assumption)).symm
    refine gy tv90 7 ?_;refine next (k+1) rfl rfl ⟨rfl,trivial⟩ trivial ?_ ?_
    · omega
    exact⟨by omega,Jf_ hk2 (Dj_ hc5) (by assumption)⟩
  have p9:=df h2;refine gx tv90 11 ?_;refine rt1 rfl rfl (ple ?_);exact congrArg (PV.int .i64) (Lb_ hk2 (by omega)).symm
theorem cF_Grant (s:List GrantR) (f:FuncId) (f_fst f_cap:List PV) (f_p:GrantR->Bool) (f_h:∀ x,Fn Tryz.prog gb f (argsP.apL f_fst ((.agg (GrantR.pc x))::f_cap)) (.bool (f_p x))):Fn Tryz.prog gb 360 [.sl GrantR.pc s, .fn f f_fst f_cap] (.bool (decide (0<=idxP f_p s))):=by
  refine fC Tryz.func360 tv90 Tryz.ntmps360 fun w N H hG=>?_;refine gx tv90 9 ?_;refine call (S5_ _ f f_fst f_cap f_p f_h) rfl rfl fun w1=>?_;have hix1:=Hw_ f_p s;refine gx tv90 5 ?_;refine rt1 rfl rfl (ple ?_)
  rfl
theorem grow_Note (n:Int) (hn:0<=n/\n<=100000000:=by omega):Fo Tryz.prog gb 215 [.val (.slice none 0 0), .int .i64 n] (fun u=> .val u) 3 24 NoteR.pc ([]:List NoteR):=by
  refine Ug_ tv90 Tryz.func215 rfl Tryz.ntmps215 rfl cb215 (fun _=>rfl) rfl fun w N H hG=>?_;refine gx tv90 12 ?_;refine cnd rfl (fun h1=>?_) (fun h1=>?_)
  · have p2:=dt h1
    exfalso;omega
  have p3:=df h1;refine gx tv90 7 ?_;refine q1 (qcap0 tv90 rfl rfl rfl) rfl fun w4=>?_;refine gx tv90 1 ?_;refine q1 (qlen0 tv90 rfl rfl rfl) rfl fun w5=>?_;refine gy tv90 11 ?_;refine cn rfl (fun p7=>?_) fun p13=>?_
  · refine gx tv90 3 ?_;refine q1 (qcap0 tv90 rfl rfl rfl) rfl fun w8=>?_;refine q1 (qcut0 tv90 rfl rfl rfl rfl rfl (by omega)) rfl fun w9=>?_;refine gx tv90 1 ?_;refine ef (appz (m:=((n-(0-0))).toNat) 0 tv90 rfl rfl rfl rfl rfl rfl rfl rfl rfl rfl (by omega) (by omega) (by (try simp only[]);omega) rfl rfl fun u10=>?_);refine gx tv90 1 ?_;refine q1 (qlen0 tv90 rfl rfl rfl) rfl fun w11=>?_;refine ef (ocut NoteR.pc tv90 rfl rfl rfl rfl rfl rfl (by omega) rfl fun u12=>?_);refine gx tv90 9 ?_;refine sw_val (t:=4) (i:=0) rfl rfl ?_;refine gx tv90 1 ?_;refine ro1 (j:=0) rfl rfl rfl ?_
    rfl
  refine gx tv90 8 ?_;refine sw_own (t:=4) (k:=3) (e:=24) 0 NoteR.pc rfl rfl ?_;refine sw_val (t:=4) (i:=0) rfl rfl ?_;refine gx tv90 1 ?_;refine ro1 (j:=0) rfl rfl rfl ?_
  rfl
theorem Yf_ (ls:List (List NoteR)) (hl:ls.flatten.length<=100000000:=by first|omega|(simp;done)|(simp;omega)|(simp only[List.flatten_cons,List.flatten_nil,List.length_append,List.append_nil];simp;omega)):Fn Tryz.prog gb 129 [.sl (slc NoteR.pc) ls] (.sl NoteR.pc ls.flatten):=by
  refine fC Tryz.func129 tv90 Tryz.ntmps129 fun w N H hG=>?_;have ls_l:ls.length<=140737488355328:=w.1.1;refine gx tv90 19 ?_;refine loop (ι:=Nat×Int) [0,2,9,10] [] (fun ⟨k,n⟩=>[(3, .int .i64 n),(11, .int .i64 (k:Int))]) (fun ⟨k,n⟩=>[]) (fun ⟨k,n⟩=>k<=ls.length/\n=((ls.take k).flatten.length:Int)) (fun ⟨k,n⟩=>ls.length-k) ⟨0,0⟩ ⟨rfl,rfl,trivial⟩ trivial ?_ ?_
  · exact⟨Nat.zero_le _,by simp⟩
  rintro⟨k,n⟩ hp1;obtain⟨hk1,hk2⟩:=hp1;have hg0:=Cn_ ls k;refine gx tv90 6 ?_;refine cn rfl (fun p3=>?_) fun p10=>?_
  · obtain⟨c4,hc5⟩:=getE (xs:=ls) (m:=k) (by omega);refine gx tv90 6 ?_;refine q1 (qidx tv90 k rfl rfl rfl hc5 rfl rfl rfl rfl) rfl fun w6=>?_;refine go tv90 19 rfl rfl ⟨(by have hg:=Cn_ ls (k+1);have hfl:=congrArg List.length (Au_ (by assumption :ls[k]? = some _));simp only[List.length_append] at hfl;omega),trivial⟩ ?_;refine cnd rfl (fun h7=>?_) (fun h7=>?_)
    · have p8:=dt h7
      exfalso;omega
    have p9:=df h7;refine go tv90 7 rfl rfl ⟨(by have hg:=Cn_ ls (k+1);have hfl:=congrArg List.length (Au_ (by assumption :ls[k]? = some _));simp only[List.length_append] at hfl;omega),trivial⟩ ?_;refine next ⟨(k+1),(n+(c4.length:Int))⟩ rfl rfl ⟨rfl,rfl,trivial⟩ trivial ?_ ?_
    · (try simp only[]);omega
    have hf:=Au_ hc5;have hg:=Cn_ ls (k+1);have hfl:=congrArg List.length hf
    simp only[List.length_append] at hfl
    exact⟨by omega,by (try simp only[]);omega⟩
  refine gx tv90 8 ?_;refine ef (ecallo 0 (grow_Note _) rfl rfl fun u12 w11=>?_);refine gx tv90 12 ?_;refine sw_osl (t:=6) 0 rfl rfl ?_;refine loop (ι:=Nat×(List NoteR)×Value) [0,2,3,9,10,11,12,23,24,25,26] [] (fun ⟨k,out,u_out⟩=>[(6, .osl 0),(27, .int .i64 (k:Int))]) (fun ⟨k,out,u_out⟩=>[(0, .arr u_out 3 24 NoteR.pc out)]) (fun ⟨k,out,u_out⟩=>k<=ls.length/\out=(ls.take k).flatten) (fun ⟨k,out,u_out⟩=>ls.length-k) ⟨0,([]:List NoteR),(u12)⟩ ⟨rfl,rfl,trivial⟩ ⟨rfl,trivial⟩ ?_ ?_
  · exact⟨Nat.zero_le _,by simp⟩
  rintro⟨k,out,u_out⟩ hp13;obtain⟨hk1,hk2⟩:=hp13;refine gx tv90 6 ?_;refine cn rfl (fun p15=>?_) fun p20=>?_
  · obtain⟨c16,hc17⟩:=getE (xs:=ls) (m:=k) (by omega);refine gx tv90 6 ?_;refine q1 (qidx tv90 k rfl rfl rfl hc17 rfl rfl rfl rfl) rfl fun w18=>?_;refine gx tv90 7 ?_;refine ef (app tv90 c16 rfl rfl rfl rfl rfl rfl rfl rfl rfl (src_l rfl (fun _=>rfl)) (by have hg:=Cn_ ls (k+1);have hfl:=congrArg List.length (Au_ (by assumption :ls[k]? = some _));simp only[List.length_append] at hfl;subst hk2;(try simp only[]);omega) rfl fun u19=>?_);refine go tv90 8 rfl rfl ⟨(by have hg:=Cn_ ls (k+1);have hfl:=congrArg List.length (Au_ (by assumption :ls[k]? = some _));simp only[List.length_append] at hfl;omega),trivial⟩ ?_;refine next ⟨(k+1),(out++c16),(u19)⟩ rfl rfl ⟨rfl,rfl,trivial⟩ ⟨rfl,trivial⟩ ?_ ?_
    · (try simp only[]);omega
    exact⟨by omega,by (try simp only[]);rw[Au_ hc17,hk2]⟩
  refine gx tv90 11 ?_;refine givec 0 rfl ?_;refine gx tv90 1 ?_;refine rt1 rfl rfl (ple ?_)
  rw[hk2,Ku_ (by omega)]
theorem grow_Item (n:Int) (hn:0<=n/\n<=100000000:=by omega):Fo Tryz.prog gb 303 [.val (.slice none 0 0), .int .i64 n] (fun u=> .val u) 9 75 ItemR.pc ([]:List ItemR):=by
  refine Ug_ tv90 Tryz.func303 rfl Tryz.ntmps303 rfl cb303 (fun _=>rfl) rfl fun w N H hG=>?_;refine gx tv90 12 ?_;refine cnd rfl (fun h1=>?_) (fun h1=>?_)
  · have p2:=dt h1
    exfalso;omega
  have p3:=df h1;refine gx tv90 7 ?_;refine q1 (qcap0 tv90 rfl rfl rfl) rfl fun w4=>?_;refine gx tv90 1 ?_;refine q1 (qlen0 tv90 rfl rfl rfl) rfl fun w5=>?_;refine gy tv90 11 ?_;refine cn rfl (fun p7=>?_) fun p13=>?_
  · refine gx tv90 3 ?_;refine q1 (qcap0 tv90 rfl rfl rfl) rfl fun w8=>?_;refine q1 (qcut0 tv90 rfl rfl rfl rfl rfl (by omega)) rfl fun w9=>?_;refine gx tv90 1 ?_;refine ef (appz (m:=((n-(0-0))).toNat) 0 tv90 rfl rfl rfl rfl rfl rfl rfl rfl rfl rfl (by omega) (by omega) (by (try simp only[]);omega) rfl rfl fun u10=>?_);refine gx tv90 1 ?_;refine q1 (qlen0 tv90 rfl rfl rfl) rfl fun w11=>?_;refine ef (ocut ItemR.pc tv90 rfl rfl rfl rfl rfl rfl (by omega) rfl fun u12=>?_);refine gx tv90 9 ?_;refine sw_val (t:=4) (i:=0) rfl rfl ?_;refine gx tv90 1 ?_;refine ro1 (j:=0) rfl rfl rfl ?_
    rfl
  refine gx tv90 8 ?_;refine sw_own (t:=4) (k:=9) (e:=75) 0 ItemR.pc rfl rfl ?_;refine sw_val (t:=4) (i:=0) rfl rfl ?_;refine gx tv90 1 ?_;refine ro1 (j:=0) rfl rfl rfl ?_
  rfl
theorem Qq_ (ls:List (List ItemR)) (hl:ls.flatten.length<=100000000:=by first|omega|(simp;done)|(simp;omega)|(simp only[List.flatten_cons,List.flatten_nil,List.length_append,List.append_nil];simp;omega)):Fn Tryz.prog gb 267 [.sl (slc ItemR.pc) ls] (.sl ItemR.pc ls.flatten):=by
  refine fC Tryz.func267 tv90 Tryz.ntmps267 fun w N H hG=>?_;have ls_l:ls.length<=140737488355328:=w.1.1;refine gx tv90 19 ?_;refine loop (ι:=Nat×Int) [0,2,9,10] [] (fun ⟨k,n⟩=>[(3, .int .i64 n),(11, .int .i64 (k:Int))]) (fun ⟨k,n⟩=>[]) (fun ⟨k,n⟩=>k<=ls.length/\n=((ls.take k).flatten.length:Int)) (fun ⟨k,n⟩=>ls.length-k) ⟨0,0⟩ ⟨rfl,rfl,trivial⟩ trivial ?_ ?_
  · exact⟨Nat.zero_le _,by simp⟩
  rintro⟨k,n⟩ hp1;obtain⟨hk1,hk2⟩:=hp1;have hg0:=Cn_ ls k;refine gx tv90 6 ?_;refine cn rfl (fun p3=>?_) fun p10=>?_
  · obtain⟨c4,hc5⟩:=getE (xs:=ls) (m:=k) (by omega);refine gx tv90 6 ?_;refine q1 (qidx tv90 k rfl rfl rfl hc5 rfl rfl rfl rfl) rfl fun w6=>?_;refine go tv90 19 rfl rfl ⟨(by have hg:=Cn_ ls (k+1);have hfl:=congrArg List.length (Au_ (by assumption :ls[k]? = some _));simp only[List.length_append] at hfl;omega),trivial⟩ ?_;refine cnd rfl (fun h7=>?_) (fun h7=>?_)
    · have p8:=dt h7
      exfalso;omega
    have p9:=df h7;refine go tv90 7 rfl rfl ⟨(by have hg:=Cn_ ls (k+1);have hfl:=congrArg List.length (Au_ (by assumption :ls[k]? = some _));simp only[List.length_append] at hfl;omega),trivial⟩ ?_;refine next ⟨(k+1),(n+(c4.length:Int))⟩ rfl rfl ⟨rfl,rfl,trivial⟩ trivial ?_ ?_
    · (try simp only[]);omega
    have hf:=Au_ hc5;have hg:=Cn_ ls (k+1);have hfl:=congrArg List.length hf
    simp only[List.length_append] at hfl
    exact⟨by omega,by (try simp only[]);omega⟩
  refine gx tv90 8 ?_;refine ef (ecallo 0 (grow_Item _) rfl rfl fun u12 w11=>?_);refine gx tv90 12 ?_;refine sw_osl (t:=6) 0 rfl rfl ?_;refine loop (ι:=Nat×(List ItemR)×Value) [0,2,3,9,10,11,12,23,24,25,26] [] (fun ⟨k,out,u_out⟩=>[(6, .osl 0),(27, .int .i64 (k:Int))]) (fun ⟨k,out,u_out⟩=>[(0, .arr u_out 9 75 ItemR.pc out)]) (fun ⟨k,out,u_out⟩=>k<=ls.length/\out=(ls.take k).flatten) (fun ⟨k,out,u_out⟩=>ls.length-k) ⟨0,([]:List ItemR),(u12)⟩ ⟨rfl,rfl,trivial⟩ ⟨rfl,trivial⟩ ?_ ?_
  · exact⟨Nat.zero_le _,by simp⟩
  rintro⟨k,out,u_out⟩ hp13;obtain⟨hk1,hk2⟩:=hp13;refine gx tv90 6 ?_;refine cn rfl (fun p15=>?_) fun p20=>?_
  · obtain⟨c16,hc17⟩:=getE (xs:=ls) (m:=k) (by omega);refine gx tv90 6 ?_;refine q1 (qidx tv90 k rfl rfl rfl hc17 rfl rfl rfl rfl) rfl fun w18=>?_;refine gx tv90 7 ?_;refine ef (app tv90 c16 rfl rfl rfl rfl rfl rfl rfl rfl rfl (src_l rfl (fun _=>rfl)) (by have hg:=Cn_ ls (k+1);have hfl:=congrArg List.length (Au_ (by assumption :ls[k]? = some _));simp only[List.length_append] at hfl;subst hk2;(try simp only[]);omega) rfl fun u19=>?_);refine go tv90 8 rfl rfl ⟨(by have hg:=Cn_ ls (k+1);have hfl:=congrArg List.length (Au_ (by assumption :ls[k]? = some _));simp only[List.length_append] at hfl;omega),trivial⟩ ?_;refine next ⟨(k+1),(out++c16),(u19)⟩ rfl rfl ⟨rfl,rfl,trivial⟩ ⟨rfl,trivial⟩ ?_ ?_
    · (try simp only[]);omega
    exact⟨by omega,by (try simp only[]);rw[Au_ hc17,hk2]⟩
  refine gx tv90 11 ?_;refine givec 0 rfl ?_;refine gx tv90 1 ?_;refine rt1 rfl rfl (ple ?_)
  rw[hk2,Ku_ (by omega)]
theorem Q1_ (s:List ItemR) (f:FuncId) (f_fst f_cap:List PV) (f_p:ItemR->Bool) (f_h:∀ x,Fn Tryz.prog gb f (argsP.apL f_fst ((.agg (ItemR.pc x))::f_cap)) (.bool (f_p x))):Fn Tryz.prog gb 300 [.sl ItemR.pc s, .fn f f_fst f_cap] (.int .i64 (idxP f_p s)):=by
  refine fC Tryz.func300 tv90 Tryz.ntmps300 fun w N H hG=>?_;have s_l:s.length<=140737488355328:=w.1.1;refine gx tv90 14 ?_;refine loop (ι:=Nat) [0,1,6,7] [] (fun k=>[(8, .int .i64 (k:Int))]) (fun k=>[]) (fun k=>k<=s.length/\idxP f_p s=idxF f_p k (s.drop k)) (fun k=>s.length-k) 0 ⟨rfl,trivial⟩ trivial ?_ ?_
  · exact⟨Nat.zero_le _,rfl⟩
  rintro k hp1;obtain⟨hk1,hk2⟩:=hp1;refine gx tv90 6 ?_;refine cnd rfl (fun h2=>?_) (fun h2=>?_)
  · have p3:=dt h2;obtain⟨c4,hc5⟩:=getE (xs:=s) (m:=k) (by omega);refine gx tv90 15 ?_;refine q1 (qidx tv90 k rfl rfl rfl hc5 rfl rfl rfl rfl) rfl fun w6=>?_;refine gx tv90 1 ?_;refine call (f_h c4) rfl rfl fun w7=>?_;refine gx tv90 2 ?_;refine cnd rfl (fun h8=>?_) (fun h8=>?_)
    · refine gx tv90 12 ?_;refine rt1 rfl rfl (ple ?_);exact congrArg (PV.int .i64) (Lc_ hk2 (Dj_ hc5) (by assumption)).symm
    refine gy tv90 7 ?_;refine next (k+1) rfl rfl ⟨rfl,trivial⟩ trivial ?_ ?_
    · omega
    exact⟨by omega,Jf_ hk2 (Dj_ hc5) (by assumption)⟩
  have p9:=df h2;refine gx tv90 11 ?_;refine rt1 rfl rfl (ple ?_);exact congrArg (PV.int .i64) (Lb_ hk2 (by omega)).symm
theorem grow_row (n:Int) (hn:0<=n/\n<=100000000:=by omega):Fo Tryz.prog gb 255 [.val (.slice none 0 0), .int .i64 n] (fun u=> .val u) 5 242 RowR.pc ([]:List RowR):=by
  refine Ug_ tv90 Tryz.func255 rfl Tryz.ntmps255 rfl cb255 (fun _=>rfl) rfl fun w N H hG=>?_;refine gx tv90 12 ?_;refine cnd rfl (fun h1=>?_) (fun h1=>?_)
  · have p2:=dt h1
    exfalso;omega
  have p3:=df h1;refine gx tv90 7 ?_;refine q1 (qcap0 tv90 rfl rfl rfl) rfl fun w4=>?_;refine gx tv90 1 ?_;refine q1 (qlen0 tv90 rfl rfl rfl) rfl fun w5=>?_;refine gy tv90 11 ?_;refine cn rfl (fun p7=>?_) fun p13=>?_
  · refine gx tv90 3 ?_;refine q1 (qcap0 tv90 rfl rfl rfl) rfl fun w8=>?_;refine q1 (qcut0 tv90 rfl rfl rfl rfl rfl (by omega)) rfl fun w9=>?_;refine gx tv90 1 ?_;refine ef (appz (m:=((n-(0-0))).toNat) 0 tv90 rfl rfl rfl rfl rfl rfl rfl rfl rfl rfl (by omega) (by omega) (by (try simp only[]);omega) rfl rfl fun u10=>?_);refine gx tv90 1 ?_;refine q1 (qlen0 tv90 rfl rfl rfl) rfl fun w11=>?_;refine ef (ocut RowR.pc tv90 rfl rfl rfl rfl rfl rfl (by omega) rfl fun u12=>?_);refine gx tv90 9 ?_;refine sw_val (t:=4) (i:=0) rfl rfl ?_;refine gx tv90 1 ?_;refine ro1 (j:=0) rfl rfl rfl ?_
    rfl
  refine gx tv90 8 ?_;refine sw_own (t:=4) (k:=5) (e:=242) 0 RowR.pc rfl rfl ?_;refine sw_val (t:=4) (i:=0) rfl rfl ?_;refine gx tv90 1 ?_;refine ro1 (j:=0) rfl rfl rfl ?_
  rfl
theorem S1_ (ls:List (List RowR)) (hl:ls.flatten.length<=100000000:=by first|omega|(simp;done)|(simp;omega)|(simp only[List.flatten_cons,List.flatten_nil,List.length_append,List.append_nil];simp;omega)):Fn Tryz.prog gb 195 [.sl (slc RowR.pc) ls] (.sl RowR.pc ls.flatten):=by
  refine fC Tryz.func195 tv90 Tryz.ntmps195 fun w N H hG=>?_;have ls_l:ls.length<=140737488355328:=w.1.1;refine gx tv90 19 ?_;refine loop (ι:=Nat×Int) [0,2,9,10] [] (fun ⟨k,n⟩=>[(3, .int .i64 n),(11, .int .i64 (k:Int))]) (fun ⟨k,n⟩=>[]) (fun ⟨k,n⟩=>k<=ls.length/\n=((ls.take k).flatten.length:Int)) (fun ⟨k,n⟩=>ls.length-k) ⟨0,0⟩ ⟨rfl,rfl,trivial⟩ trivial ?_ ?_
  · exact⟨Nat.zero_le _,by simp⟩
  rintro⟨k,n⟩ hp1;obtain⟨hk1,hk2⟩:=hp1;have hg0:=Cn_ ls k;refine gx tv90 6 ?_;refine cn rfl (fun p3=>?_) fun p10=>?_
  · obtain⟨c4,hc5⟩:=getE (xs:=ls) (m:=k) (by omega);refine gx tv90 6 ?_;refine q1 (qidx tv90 k rfl rfl rfl hc5 rfl rfl rfl rfl) rfl fun w6=>?_;refine go tv90 19 rfl rfl ⟨(by have hg:=Cn_ ls (k+1);have hfl:=congrArg List.length (Au_ (by assumption :ls[k]? = some _));simp only[List.length_append] at hfl;omega),trivial⟩ ?_;refine cnd rfl (fun h7=>?_) (fun h7=>?_)
    · have p8:=dt h7
      exfalso;omega
    have p9:=df h7;refine go tv90 7 rfl rfl ⟨(by have hg:=Cn_ ls (k+1);have hfl:=congrArg List.length (Au_ (by assumption :ls[k]? = some _));simp only[List.length_append] at hfl;omega),trivial⟩ ?_;refine next ⟨(k+1),(n+(c4.length:Int))⟩ rfl rfl ⟨rfl,rfl,trivial⟩ trivial ?_ ?_
    · (try simp only[]);omega
    have hf:=Au_ hc5;have hg:=Cn_ ls (k+1);have hfl:=congrArg List.length hf
    simp only[List.length_append] at hfl
    exact⟨by omega,by (try simp only[]);omega⟩
  refine gx tv90 8 ?_;refine ef (ecallo 0 (grow_row _) rfl rfl fun u12 w11=>?_);refine gx tv90 12 ?_;refine sw_osl (t:=6) 0 rfl rfl ?_;refine loop (ι:=Nat×(List RowR)×Value) [0,2,3,9,10,11,12,23,24,25,26] [] (fun ⟨k,out,u_out⟩=>[(6, .osl 0),(27, .int .i64 (k:Int))]) (fun ⟨k,out,u_out⟩=>[(0, .arr u_out 5 242 RowR.pc out)]) (fun ⟨k,out,u_out⟩=>k<=ls.length/\out=(ls.take k).flatten) (fun ⟨k,out,u_out⟩=>ls.length-k) ⟨0,([]:List RowR),(u12)⟩ ⟨rfl,rfl,trivial⟩ ⟨rfl,trivial⟩ ?_ ?_
  · exact⟨Nat.zero_le _,by simp⟩
  rintro⟨k,out,u_out⟩ hp13;obtain⟨hk1,hk2⟩:=hp13;refine gx tv90 6 ?_;refine cn rfl (fun p15=>?_) fun p20=>?_
  · obtain⟨c16,hc17⟩:=getE (xs:=ls) (m:=k) (by omega);refine gx tv90 6 ?_;refine q1 (qidx tv90 k rfl rfl rfl hc17 rfl rfl rfl rfl) rfl fun w18=>?_;refine gx tv90 7 ?_;refine ef (app tv90 c16 rfl rfl rfl rfl rfl rfl rfl rfl rfl (src_l rfl (fun _=>rfl)) (by have hg:=Cn_ ls (k+1);have hfl:=congrArg List.length (Au_ (by assumption :ls[k]? = some _));simp only[List.length_append] at hfl;subst hk2;(try simp only[]);omega) rfl fun u19=>?_);refine go tv90 8 rfl rfl ⟨(by have hg:=Cn_ ls (k+1);have hfl:=congrArg List.length (Au_ (by assumption :ls[k]? = some _));simp only[List.length_append] at hfl;omega),trivial⟩ ?_;refine next ⟨(k+1),(out++c16),(u19)⟩ rfl rfl ⟨rfl,rfl,trivial⟩ ⟨rfl,trivial⟩ ?_ ?_
    · (try simp only[]);omega
    exact⟨by omega,by (try simp only[]);rw[Au_ hc17,hk2]⟩
  refine gx tv90 11 ?_;refine givec 0 rfl ?_;refine gx tv90 1 ?_;refine rt1 rfl rfl (ple ?_)
  rw[hk2,Ku_ (by omega)]
theorem idxF_row (s:List RowR) (f:FuncId) (f_fst f_cap:List PV) (f_p:RowR->Bool) (f_h:∀ x,Fn Tryz.prog gb f (argsP.apL f_fst ((.agg (RowR.pc x))::f_cap)) (.bool (f_p x))):Fn Tryz.prog gb 253 [.sl RowR.pc s, .fn f f_fst f_cap] (.int .i64 (idxP f_p s)):=by
  refine fC Tryz.func253 tv90 Tryz.ntmps253 fun w N H hG=>?_;have s_l:s.length<=140737488355328:=w.1.1;refine gx tv90 14 ?_;refine loop (ι:=Nat) [0,1,6,7] [] (fun k=>[(8, .int .i64 (k:Int))]) (fun k=>[]) (fun k=>k<=s.length/\idxP f_p s=idxF f_p k (s.drop k)) (fun k=>s.length-k) 0 ⟨rfl,trivial⟩ trivial ?_ ?_
  · exact⟨Nat.zero_le _,rfl⟩
  rintro k hp1;obtain⟨hk1,hk2⟩:=hp1;refine gx tv90 6 ?_;refine cnd rfl (fun h2=>?_) (fun h2=>?_)
  · have p3:=dt h2;obtain⟨c4,hc5⟩:=getE (xs:=s) (m:=k) (by omega);refine gx tv90 15 ?_;refine q1 (qidx tv90 k rfl rfl rfl hc5 rfl rfl rfl rfl) rfl fun w6=>?_;refine gx tv90 1 ?_;refine call (f_h c4) rfl rfl fun w7=>?_;refine gx tv90 2 ?_;refine cnd rfl (fun h8=>?_) (fun h8=>?_)
    · refine gx tv90 12 ?_;refine rt1 rfl rfl (ple ?_);exact congrArg (PV.int .i64) (Lc_ hk2 (Dj_ hc5) (by assumption)).symm
    refine gy tv90 7 ?_;refine next (k+1) rfl rfl ⟨rfl,trivial⟩ trivial ?_ ?_
    · omega
    exact⟨by omega,Jf_ hk2 (Dj_ hc5) (by assumption)⟩
  have p9:=df h2;refine gx tv90 11 ?_;refine rt1 rfl rfl (ple ?_);exact congrArg (PV.int .i64) (Lb_ hk2 (by omega)).symm
theorem grow_Mail (n:Int) (hn:0<=n/\n<=100000000:=by omega):Fo Tryz.prog gb 323 [.val (.slice none 0 0), .int .i64 n] (fun u=> .val u) 7 71 Mail.pc ([]:List Mail):=by
  refine Ug_ tv90 Tryz.func323 rfl Tryz.ntmps323 rfl cb323 (fun _=>rfl) rfl fun w N H hG=>?_;refine gx tv90 12 ?_;refine cnd rfl (fun h1=>?_) (fun h1=>?_)
  · have p2:=dt h1
    exfalso;omega
  have p3:=df h1;refine gx tv90 7 ?_;refine q1 (qcap0 tv90 rfl rfl rfl) rfl fun w4=>?_;refine gx tv90 1 ?_;refine q1 (qlen0 tv90 rfl rfl rfl) rfl fun w5=>?_;refine gy tv90 11 ?_;refine cn rfl (fun p7=>?_) fun p13=>?_
  · refine gx tv90 3 ?_;refine q1 (qcap0 tv90 rfl rfl rfl) rfl fun w8=>?_;refine q1 (qcut0 tv90 rfl rfl rfl rfl rfl (by omega)) rfl fun w9=>?_;refine gx tv90 1 ?_;refine ef (appz (m:=((n-(0-0))).toNat) 0 tv90 rfl rfl rfl rfl rfl rfl rfl rfl rfl rfl (by omega) (by omega) (by (try simp only[]);omega) rfl rfl fun u10=>?_);refine gx tv90 1 ?_;refine q1 (qlen0 tv90 rfl rfl rfl) rfl fun w11=>?_;refine ef (ocut Mail.pc tv90 rfl rfl rfl rfl rfl rfl (by omega) rfl fun u12=>?_);refine gx tv90 9 ?_;refine sw_val (t:=4) (i:=0) rfl rfl ?_;refine gx tv90 1 ?_;refine ro1 (j:=0) rfl rfl rfl ?_
    rfl
  refine gx tv90 8 ?_;refine sw_own (t:=4) (k:=7) (e:=71) 0 Mail.pc rfl rfl ?_;refine sw_val (t:=4) (i:=0) rfl rfl ?_;refine gx tv90 1 ?_;refine ro1 (j:=0) rfl rfl rfl ?_
  rfl
theorem Ye_ (ls:List (List Mail)) (hl:ls.flatten.length<=100000000:=by first|omega|(simp;done)|(simp;omega)|(simp only[List.flatten_cons,List.flatten_nil,List.length_append,List.append_nil];simp;omega)):Fn Tryz.prog gb 299 [.sl (slc Mail.pc) ls] (.sl Mail.pc ls.flatten):=by
  refine fC Tryz.func299 tv90 Tryz.ntmps299 fun w N H hG=>?_;have ls_l:ls.length<=140737488355328:=w.1.1;refine gx tv90 19 ?_;refine loop (ι:=Nat×Int) [0,2,9,10] [] (fun ⟨k,n⟩=>[(3, .int .i64 n),(11, .int .i64 (k:Int))]) (fun ⟨k,n⟩=>[]) (fun ⟨k,n⟩=>k<=ls.length/\n=((ls.take k).flatten.length:Int)) (fun ⟨k,n⟩=>ls.length-k) ⟨0,0⟩ ⟨rfl,rfl,trivial⟩ trivial ?_ ?_
  · exact⟨Nat.zero_le _,by simp⟩
  rintro⟨k,n⟩ hp1;obtain⟨hk1,hk2⟩:=hp1;have hg0:=Cn_ ls k;refine gx tv90 6 ?_;refine cn rfl (fun p3=>?_) fun p10=>?_
  · obtain⟨c4,hc5⟩:=getE (xs:=ls) (m:=k) (by omega);refine gx tv90 6 ?_;refine q1 (qidx tv90 k rfl rfl rfl hc5 rfl rfl rfl rfl) rfl fun w6=>?_;refine go tv90 19 rfl rfl ⟨(by have hg:=Cn_ ls (k+1);have hfl:=congrArg List.length (Au_ (by assumption :ls[k]? = some _));simp only[List.length_append] at hfl;omega),trivial⟩ ?_;refine cnd rfl (fun h7=>?_) (fun h7=>?_)
    · have p8:=dt h7
      exfalso;omega
    have p9:=df h7;refine go tv90 7 rfl rfl ⟨(by have hg:=Cn_ ls (k+1);have hfl:=congrArg List.length (Au_ (by assumption :ls[k]? = some _));simp only[List.length_append] at hfl;omega),trivial⟩ ?_;refine next ⟨(k+1),(n+(c4.length:Int))⟩ rfl rfl ⟨rfl,rfl,trivial⟩ trivial ?_ ?_
    · (try simp only[]);omega
    have hf:=Au_ hc5;have hg:=Cn_ ls (k+1);have hfl:=congrArg List.length hf
    simp only[List.length_append] at hfl
    exact⟨by omega,by (try simp only[]);omega⟩
  refine gx tv90 8 ?_;refine ef (ecallo 0 (grow_Mail _) rfl rfl fun u12 w11=>?_);refine gx tv90 12 ?_;refine sw_osl (t:=6) 0 rfl rfl ?_;refine loop (ι:=Nat×(List Mail)×Value) [0,2,3,9,10,11,12,23,24,25,26] [] (fun ⟨k,out,u_out⟩=>[(6, .osl 0),(27, .int .i64 (k:Int))]) (fun ⟨k,out,u_out⟩=>[(0, .arr u_out 7 71 Mail.pc out)]) (fun ⟨k,out,u_out⟩=>k<=ls.length/\out=(ls.take k).flatten) (fun ⟨k,out,u_out⟩=>ls.length-k) ⟨0,([]:List Mail),(u12)⟩ ⟨rfl,rfl,trivial⟩ ⟨rfl,trivial⟩ ?_ ?_
  · exact⟨Nat.zero_le _,by simp⟩
  rintro⟨k,out,u_out⟩ hp13;obtain⟨hk1,hk2⟩:=hp13;refine gx tv90 6 ?_;refine cn rfl (fun p15=>?_) fun p20=>?_
  · obtain⟨c16,hc17⟩:=getE (xs:=ls) (m:=k) (by omega);refine gx tv90 6 ?_;refine q1 (qidx tv90 k rfl rfl rfl hc17 rfl rfl rfl rfl) rfl fun w18=>?_;refine gx tv90 7 ?_;refine ef (app tv90 c16 rfl rfl rfl rfl rfl rfl rfl rfl rfl (src_l rfl (fun _=>rfl)) (by have hg:=Cn_ ls (k+1);have hfl:=congrArg List.length (Au_ (by assumption :ls[k]? = some _));simp only[List.length_append] at hfl;subst hk2;(try simp only[]);omega) rfl fun u19=>?_);refine go tv90 8 rfl rfl ⟨(by have hg:=Cn_ ls (k+1);have hfl:=congrArg List.length (Au_ (by assumption :ls[k]? = some _));simp only[List.length_append] at hfl;omega),trivial⟩ ?_;refine next ⟨(k+1),(out++c16),(u19)⟩ rfl rfl ⟨rfl,rfl,trivial⟩ ⟨rfl,trivial⟩ ?_ ?_
    · (try simp only[]);omega
    exact⟨by omega,by (try simp only[]);rw[Au_ hc17,hk2]⟩
  refine gx tv90 11 ?_;refine givec 0 rfl ?_;refine gx tv90 1 ?_;refine rt1 rfl rfl (ple ?_)
  rw[hk2,Ku_ (by omega)]
theorem index_int (l:List Int) (x:Int):Fn Tryz.prog gb 348 [.sl i64c l, .int .i64 x] (.int .i64 (idxP (fun y=>decide (x=y)) l)):=by
  refine fC Tryz.func348 tv90 Tryz.ntmps348 fun w N H hG=>?_;have l_l:l.length<=140737488355328:=w.1.1;have x_r:-9223372036854775808<=x/\x<=9223372036854775807:=w.2.1;refine gx tv90 14 ?_;refine loop (ι:=Nat) [0,1,6,7] [] (fun k=>[(8, .int .i64 (k:Int))]) (fun k=>[]) (fun k=>k<=l.length/\idxP (fun y=>decide (x=y)) l=idxF (fun y=>decide (x=y)) k (l.drop k)) (fun k=>l.length-k) 0 ⟨rfl,trivial⟩ trivial ?_ ?_
  · exact⟨Nat.zero_le _,rfl⟩
  rintro k hp1;obtain⟨hik1,hik2⟩:=hp1;refine gx tv90 6 ?_;refine cn rfl (fun p3=>?_) fun p10=>?_
  · obtain⟨c4,hc5⟩:=getE (xs:=l) (m:=k) (by omega);refine gx tv90 15 ?_;refine q1 (qidx tv90 k rfl rfl rfl hc5 rfl rfl rfl rfl) rfl fun w6=>?_;refine gx tv90 4 ?_;refine cn rfl (fun p8=>?_) fun p9=>?_
    · refine gx tv90 12 ?_;refine rt1 rfl rfl (ple ?_);exact congrArg (PV.int .i64) (Lc_ hik2 (Dj_ hc5) (by first|assumption|(simp[*];done))).symm
    refine gy tv90 7 ?_;refine next (k+1) rfl rfl ⟨rfl,trivial⟩ trivial ?_ ?_
    · omega
    exact⟨by omega,Jf_ hik2 (Dj_ hc5) (by first|assumption|(simp[*];done)|grind)⟩
  refine gx tv90 11 ?_;refine rt1 rfl rfl (ple ?_);exact congrArg (PV.int .i64) (Lb_ hik2 (by omega)).symm
theorem idxF_Shop (s:List ShopR) (f:FuncId) (f_fst f_cap:List PV) (f_p:ShopR->Bool) (f_h:∀ x,Fn Tryz.prog gb f (argsP.apL f_fst ((.agg (ShopR.pc x))::f_cap)) (.bool (f_p x))):Fn Tryz.prog gb 220 [.sl ShopR.pc s, .fn f f_fst f_cap] (.int .i64 (idxP f_p s)):=by
  refine fC Tryz.func220 tv90 Tryz.ntmps220 fun w N H hG=>?_;have s_l:s.length<=140737488355328:=w.1.1;refine gx tv90 14 ?_;refine loop (ι:=Nat) [0,1,6,7] [] (fun k=>[(8, .int .i64 (k:Int))]) (fun k=>[]) (fun k=>k<=s.length/\idxP f_p s=idxF f_p k (s.drop k)) (fun k=>s.length-k) 0 ⟨rfl,trivial⟩ trivial ?_ ?_
  · exact⟨Nat.zero_le _,rfl⟩
  rintro k hp1;obtain⟨hk1,hk2⟩:=hp1;refine gx tv90 6 ?_;refine cnd rfl (fun h2=>?_) (fun h2=>?_)
  · have p3:=dt h2;obtain⟨c4,hc5⟩:=getE (xs:=s) (m:=k) (by omega);have c4_w:=ShopR.pwf (w.1.2 c4 (List.mem_of_getElem? hc5));refine gx tv90 15 ?_;refine q1 (qidx tv90 k rfl rfl rfl hc5 rfl rfl rfl rfl) rfl fun w6=>?_;refine gx tv90 1 ?_;refine call (f_h c4) rfl rfl fun w7=>?_;refine gx tv90 2 ?_;refine cnd rfl (fun h8=>?_) (fun h8=>?_)
    · refine gx tv90 12 ?_;refine rt1 rfl rfl (ple ?_);exact congrArg (PV.int .i64) (Lc_ hk2 (Dj_ hc5) (by assumption)).symm
    refine gy tv90 7 ?_;refine next (k+1) rfl rfl ⟨rfl,trivial⟩ trivial ?_ ?_
    · omega
    exact⟨by omega,Jf_ hk2 (Dj_ hc5) (by assumption)⟩
  have p9:=df h2;refine gx tv90 11 ?_;refine rt1 rfl rfl (ple ?_);exact congrArg (PV.int .i64) (Lb_ hk2 (by omega)).symm
theorem Yd_ (s:List PlaceR) (hl:s.length<=100000000:=by first|omega|(simp;done)|(simp;omega)):Fn Tryz.prog gb 103 [.sl PlaceR.pc s] (.sl PlaceR.pc s):=by
  refine fC Tryz.func103 tv90 Tryz.ntmps103 fun w N H hG=>?_;refine gx tv90 9 ?_;refine ef (lnil tv90 rfl rfl rfl rfl rfl fun b1 hb2=>?_);refine gx tv90 2 ?_;refine cnd rfl (fun h3=>?_) (fun h3=>?_)
  · refine gx tv90 7 ?_;refine rt1 rfl rfl ?_;refine Ip_ ?_;exact hb2 (by assumption)
  refine gx tv90 4 ?_;refine ef (bsl 0 PlaceR.pc [] tv90 rfl rfl rfl rfl rfl (fun _=>rfl) rfl (by decide) (by decide) rfl fun u4=>?_);refine gx tv90 1 ?_;refine ef (app tv90 s rfl rfl rfl rfl rfl rfl rfl rfl rfl (src_l rfl (fun _=>rfl)) (by first|omega|(simp;omega)) rfl fun u5=>?_);refine gx tv90 3 ?_;refine givec 0 rfl ?_;refine gx tv90 1 ?_;refine rt1 rfl rfl (ple ?_)
  simp
theorem Yc_ (s:List GrantR) (hl:s.length<=100000000:=by first|omega|(simp;done)|(simp;omega)):Fn Tryz.prog gb 105 [.sl GrantR.pc s] (.sl GrantR.pc s):=by
  refine fC Tryz.func105 tv90 Tryz.ntmps105 fun w N H hG=>?_;refine gx tv90 9 ?_;refine ef (lnil tv90 rfl rfl rfl rfl rfl fun b1 hb2=>?_);refine gx tv90 2 ?_;refine cnd rfl (fun h3=>?_) (fun h3=>?_)
  · refine gx tv90 7 ?_;refine rt1 rfl rfl ?_;refine Ip_ ?_;exact hb2 (by assumption)
  refine gx tv90 4 ?_;refine ef (bsl 0 GrantR.pc [] tv90 rfl rfl rfl rfl rfl (fun _=>rfl) rfl (by decide) (by decide) rfl fun u4=>?_);refine gx tv90 1 ?_;refine ef (app tv90 s rfl rfl rfl rfl rfl rfl rfl rfl rfl (src_l rfl (fun _=>rfl)) (by first|omega|(simp;omega)) rfl fun u5=>?_);refine gx tv90 3 ?_;refine givec 0 rfl ?_;refine gx tv90 1 ?_;refine rt1 rfl rfl (ple ?_)
  simp
theorem Nn_ (s:List ItemR) (hl:s.length<=100000:=by first|omega|(simp;omega)|decide +kernel):Fo Tryz.prog gb 271 [.sl ItemR.pc s] (fun u=> .val u) 9 75 ItemR.pc s:=by
  refine Ug_ tv90 Tryz.func271 rfl Tryz.ntmps271 rfl cb271 (fun _=>rfl) rfl fun w N H hG=>?_;refine gx tv90 9 ?_;refine ef (lnil tv90 rfl rfl rfl rfl rfl fun b1 hb2=>?_);refine gx tv90 2 ?_;refine cnd rfl (fun h3=>?_) (fun h3=>?_)
  · refine gx tv90 5 ?_;refine sw_own (t:=2) (k:=9) (e:=75) 0 ItemR.pc rfl rfl ?_;refine sw_val (t:=2) (i:=0) rfl rfl ?_;refine gx tv90 2 ?_;refine ro1 (j:=0) rfl rfl rfl ?_
    first|(exact (hb2 (by assumption)).symm)|(exact hb2 (by assumption))|simp
  refine gx tv90 4 ?_;refine ef (bsl 0 ItemR.pc [] tv90 rfl rfl rfl rfl rfl (fun _=>rfl) rfl (by decide) (by decide) rfl fun u4=>?_);refine gx tv90 1 ?_;refine ef (app tv90 s rfl rfl rfl rfl rfl rfl rfl rfl rfl (src_l rfl (fun _=>rfl)) (by first|omega|(simp;omega)) rfl fun u5=>?_);refine gx tv90 3 ?_;refine sw_val (t:=2) (i:=0) rfl rfl ?_;refine gx tv90 1 ?_;refine ro1 (j:=0) rfl rfl rfl ?_
  first|(exact (hb2 (by assumption)).symm)|(exact hb2 (by assumption))|simp
theorem oclone_row (s:List RowR) (hl:s.length<=100000:=by first|omega|(simp;omega)|decide +kernel):Fo Tryz.prog gb 212 [.sl RowR.pc s] (fun u=> .val u) 5 242 RowR.pc s:=by
  refine Ug_ tv90 Tryz.func212 rfl Tryz.ntmps212 rfl cb212 (fun _=>rfl) rfl fun w N H hG=>?_;refine gx tv90 9 ?_;refine ef (lnil tv90 rfl rfl rfl rfl rfl fun b1 hb2=>?_);refine gx tv90 2 ?_;refine cnd rfl (fun h3=>?_) (fun h3=>?_)
  · refine gx tv90 5 ?_;refine sw_own (t:=2) (k:=5) (e:=242) 0 RowR.pc rfl rfl ?_;refine sw_val (t:=2) (i:=0) rfl rfl ?_;refine gx tv90 2 ?_;refine ro1 (j:=0) rfl rfl rfl ?_
    first|(exact (hb2 (by assumption)).symm)|(exact hb2 (by assumption))|simp
  refine gx tv90 4 ?_;refine ef (bsl 0 RowR.pc [] tv90 rfl rfl rfl rfl rfl (fun _=>rfl) rfl (by decide) (by decide) rfl fun u4=>?_);refine gx tv90 1 ?_;refine ef (app tv90 s rfl rfl rfl rfl rfl rfl rfl rfl rfl (src_l rfl (fun _=>rfl)) (by first|omega|(simp;omega)) rfl fun u5=>?_);refine gx tv90 3 ?_;refine sw_val (t:=2) (i:=0) rfl rfl ?_;refine gx tv90 1 ?_;refine ro1 (j:=0) rfl rfl rfl ?_
  first|(exact (hb2 (by assumption)).symm)|(exact hb2 (by assumption))|simp
theorem clone_int (s:List Int) (hl:s.length<=100000000:=by first|omega|(simp;done)|(simp;omega)):Fn Tryz.prog gb 104 [.sl i64c s] (.sl i64c s):=by
  refine fC Tryz.func104 tv90 Tryz.ntmps104 fun w N H hG=>?_;refine gx tv90 9 ?_;refine ef (lnil tv90 rfl rfl rfl rfl rfl fun b1 hb2=>?_);refine gx tv90 2 ?_;refine cnd rfl (fun h3=>?_) (fun h3=>?_)
  · refine gx tv90 7 ?_;refine rt1 rfl rfl ?_;refine Ip_ ?_;exact hb2 (by assumption)
  refine gx tv90 4 ?_;refine ef (bsl 0 i64c [] tv90 rfl rfl rfl rfl rfl (fun _=>rfl) rfl (by decide) (by decide) rfl fun u4=>?_);refine gx tv90 1 ?_;refine ef (app tv90 s rfl rfl rfl rfl rfl rfl rfl rfl rfl (src_l rfl (fun _=>rfl)) (by first|omega|(simp;omega)) rfl fun u5=>?_);refine gx tv90 3 ?_;refine givec 0 rfl ?_;refine gx tv90 1 ?_;refine rt1 rfl rfl (ple ?_)
  simp
def tbv91:Tb:=[(3,ty3),(9,ty9),(22,ty22),(24,ty24),(31,ty31),(33,ty33),(35,ty35),(51,ty51),(53,ty53),(71,ty71),(75,ty75),(127,Zr_),(129,Oy_),(238,X4_),(240,Sl_),(322,ty322)]
theorem tv91:tbB Tryz.prog tbv91=true:=by kernel_rfl
theorem Gm_ (p:PolicyR) (from_:Int) (to_:Int):Fn Tryz.prog gb 125 [.agg (PolicyR.pc p), .int .i64 from_, .int .i64 to_] (.bool (Fd_ p from_ to_)):=by
  refine fC Tryz.func125 tv91 Tryz.ntmps125 fun w N H hG=>?_;have e0:=Fd_.eq_1 p from_ to_;refine gm tv91 7 [0] fun B2=>?_;refine aN [1,2,3,4,5,6] 29 mixd ?_;refine gX tv91 [0,1,2,3,4,5] 23 ?_;refine vcallg 6 rfl (by kernel_rfl) rfl (fun hc=>(D7_ _ _)) rfl rfl ⟨(fun hc=>hc),(fun hc=>hc),trivial⟩ rfl fun _=>?_;refine gXy tv91 [7,8,9,10] 18 ?_;refine vcallg 11 rfl (by kernel_rfl) rfl (fun hc=>(D7_ _ _)) rfl rfl ⟨(fun hc=>hc),(fun hc=>hc),trivial⟩ rfl fun _=>?_;refine gXy tv91 [12,13,14,15,16] 12 ?_;refine vqg 17 [22,23] rfl (by kernel_rfl) rfl rfl (fun hc=>qidx tv91 (from_).toNat rfl rfl (by simp only[gOf,Ar_,Cl_,Bool.and_eq_true,Bool.or_eq_true,Bool.not_eq_true',decide_eq_true_eq,decide_eq_false_iff_not,cond_true,cond_false] at hc;omega) (getG (by simp only[gOf,Ar_,Cl_,Bool.and_eq_true,Bool.or_eq_true,Bool.not_eq_true',decide_eq_true_eq,decide_eq_false_iff_not,cond_true,cond_false] at hc;omega)) rfl rfl rfl rfl) ⟨(fun hc=>hc),(fun hc=>hc),trivial⟩ rfl fun _=>?_;refine gXy tv91 [18,19,20,21,22] 6 ?_;refine vqg 23 [28,29] rfl (by kernel_rfl) rfl rfl (fun hc=>qidx tv91 (to_).toNat rfl rfl (by simp only[gOf,Ar_,Cl_,Bool.and_eq_true,Bool.or_eq_true,Bool.not_eq_true',decide_eq_true_eq,decide_eq_false_iff_not,cond_true,cond_false] at hc;omega) (getG (by simp only[gOf,Ar_,Cl_,Bool.and_eq_true,Bool.or_eq_true,Bool.not_eq_true',decide_eq_true_eq,decide_eq_false_iff_not,cond_true,cond_false] at hc;omega)) rfl rfl rfl rfl) ⟨(fun hc=>hc),(fun hc=>hc),trivial⟩ rfl fun _=>?_;refine gXy tv91 [24,25] 3 ?_;refine vcallg 26 rfl (by kernel_rfl) rfl (fun hc=>(Gc_ _ _)) rfl rfl ⟨(fun hc=>hc),(fun hc=>hc),trivial⟩ rfl fun _=>?_;refine gXy tv91 [27,28] 0 ?_;refine vD ?_;refine gx tv91 2 ?_;exact rt1 rfl rfl (P_ (fun r:Bool=> .bool r) e0 (ple rfl))
theorem Fq_ (p:PolicyR) (name:Bs):Fn Tryz.prog gb 130 [.agg (PolicyR.pc p), .str name] (.int .i64 (Bo_ p name)):=by
  refine fC Tryz.func130 tv91 Tryz.ntmps130 fun w N H hG=>?_;have e0:=Bo_.eq_1 p name;refine gm tv91 11 [0,1] fun B2=>?_;refine freeze (i:=1) (t:=3) rfl rfl rfl rfl ?_;refine gx tv91 1 ?_;refine call (S6_ _ _ _ _ (fun z_4:PlaceR=>(Iy_ z_4 name)) (fun z_4=>Ry_ z_4 name)) rfl rfl fun w5=>?_;have hix5:=Hw_ (fun z_4:PlaceR=>(Iy_ z_4 name)) p.places;refine gx tv91 4 ?_;exact rt1 rfl rfl (P_ (fun r:Int=> .int .i64 r) e0 (ple rfl))
theorem Gn_ (p:PolicyR) (from_:Int) (to_:Int):Fn Tryz.prog gb 126 [.agg (PolicyR.pc p), .int .i64 from_, .int .i64 to_] (.int .i64 (Aj_ p from_ to_)):=by
  refine fC Tryz.func126 tv91 Tryz.ntmps126 fun w N H hG=>?_;have e0:=Aj_.eq_1 p from_ to_;refine gm tv91 12 [0,1,2] fun B2=>?_;refine freeze (i:=1) (t:=4) rfl rfl rfl rfl ?_;refine freeze (i:=2) (t:=5) rfl rfl rfl rfl ?_;refine gx tv91 1 ?_;refine call (S5_ _ _ _ _ (fun z_5:GrantR=>(G8_ z_5 from_ to_)) (fun z_5=>Px_ z_5 from_ to_)) rfl rfl fun w6=>?_;have hix6:=Hw_ (fun z_5:GrantR=>(G8_ z_5 from_ to_)) p.grants;refine gx tv91 4 ?_;exact rt1 rfl rfl (P_ (fun r:Int=> .int .i64 r) e0 (ple rfl))
theorem H5_ (n:A4_) (x:NoteR) (hk:n.kept.length<=1000:=by first|omega|(simp;omega)|decide +kernel):Fn Tryz.prog gb 51 [.agg (A4_.pc n), .agg (NoteR.pc x)] (.tup [.agg (A4_.pc ((Cu_ n x).1)), .int .i64 ((Cu_ n x).2)]):=by
  refine fC Tryz.func51 tv91 Tryz.ntmps51 fun w N H hG=>?_;have e0:=Cu_.eq_1 n x;generalize Cu_ n x=z at e0 ⊢;refine gm tv91 19 [0,1,2] fun B2=>?_;refine cD e0 (fun p6 e7=>?_) (fun p9 e10=>?_)
  · refine gm tv91 10 [] fun _=>?_;subst e7;exact qr2
  refine gx tv91 8 ?_;refine cD e10 (fun p12 e13=>?_) (fun p15 e16=>?_)
  · refine gm tv91 10 [] fun _=>?_;subst e13;exact qr2
  refine gx tv91 8 ?_;refine ef (bsl 3 NoteR.pc [x] tv91 rfl rfl rfl rfl rfl (fun _=>rfl) rfl (by decide) (by decide) rfl fun u17=>?_);refine give 3 rfl ?_;refine ef (bsl 3 (slc NoteR.pc) [n.kept,[x]] tv91 rfl rfl rfl rfl rfl (fun _=>rfl) rfl (by decide) (by decide) rfl fun u18=>?_);refine give 3 rfl ?_;refine call (Yf_ _) rfl rfl fun w19=>?_;have hfl19:([n.kept,[x]].flatten).length=n.kept.length+1:=by simp only[List.flatten_cons,List.flatten_nil,List.length_append,List.length_nil,List.length_cons,Nat.add_zero,Nat.zero_add]
  refine gx tv91 4 ?_;refine aN [2,3,4,5,6,7,8] 12 mixd ?_;have :=F3_ (n.total+1);refine gXy tv91 [0,1,2,3,4,5,6,7] 4 ?_;refine vq 8 (lslo tv91 ((max 0 ((([n.kept,[x]].flatten).length:Int)-32))).toNat rfl rfl rfl rfl rfl (fun _=>rfl) (by (try dsimp only);omega) (by (try dsimp only);omega)) rfl (by kernel_rfl) rfl fun w21=>?_;refine gX tv91 [9] 2 ?_;refine vT 10 rfl (sA tv91 ?_);refine gX tv91 [11] 0 ?_;refine vD ?_;refine gx tv91 2 ?_;subst e16;exact qr2
theorem Kh_ (n:A4_) (number:Int):Fn Tryz.prog gb 287 [.agg (A4_.pc n), .int .u64 number] (.tup [.agg (NoteR.pc ((F1_ n number).1)), .bool ((F1_ n number).2)]):=by
  refine fC Tryz.func287 tv91 Tryz.ntmps287 fun w N H hG=>?_;have n_total_r:0<=n.total/\n.total<=18446744073709551615:=w.1.1;have n_kept_l:n.kept.length<=140737488355328:=w.1.2.1.1;have number_r:0<=number/\number<=18446744073709551615:=w.2.1;have e0:=F1_.eq_1 n number;generalize F1_ n number=z at e0 ⊢;refine gm tv91 14 [0,1] fun B2=>?_;refine q1 (qconv tv91 rfl rfl rfl rfl (J1_ (by omega))) rfl fun w4=>?_;have :=F3_ (n.total-(n.kept.length:Int));refine gy tv91 18 ?_;refine cE e0 (fun h5 e6=>?_) (fun h5 e12=>?_)
  · refine gm tv91 9 [] fun _=>?_;subst e6;exact qr2
  have h8:=orl h5;have p9:=df h8;have h10:=orr h5;have p11:=df h10;have :=F3_ (number-(IntKind.wrap .u64 (n.total-(n.kept.length:Int))));have :=F3_ ((IntKind.wrap .u64 (number-(IntKind.wrap .u64 (n.total-(n.kept.length:Int)))))-1);have hc13:=getG (xs:=n.kept) (k:=((IntKind.wrap .u64 ((IntKind.wrap .u64 (number-(IntKind.wrap .u64 (n.total-(n.kept.length:Int)))))-1))).toNat) (by simp only[IntKind.wrap_u64] at *;omega);refine gx tv91 10 ?_;refine q1 (qidx tv91 ((IntKind.wrap .u64 ((IntKind.wrap .u64 (number-(IntKind.wrap .u64 (n.total-(n.kept.length:Int)))))-1))).toNat rfl rfl (by omega) hc13 rfl rfl rfl rfl) rfl fun w14=>?_;refine gm tv91 6 [] fun _=>?_;subst e12;exact qr2
theorem L4_ (l:LineR) (id:Int):Fn Tryz.prog gb 265 [.agg (LineR.pc l), .int .u64 id] (.int .i64 (Dn_ l id)):=by
  refine fC Tryz.func265 tv91 Tryz.ntmps265 fun w N H hG=>?_;have e0:=Dn_.eq_1 l id;refine gm tv91 11 [0,1] fun B2=>?_;refine freeze (i:=1) (t:=3) rfl rfl rfl rfl ?_;refine gx tv91 1 ?_;refine call (Q1_ _ _ _ _ (fun z_4:ItemR=>(Oh_ z_4 id)) (fun z_4=>Y2_ z_4 id)) rfl rfl fun w5=>?_;have hix5:=Hw_ (fun z_4:ItemR=>(Oh_ z_4 id)) l.items;refine gx tv91 4 ?_;exact rt1 rfl rfl (P_ (fun r:Int=> .int .i64 r) e0 (ple rfl))
theorem Og_ (l:LineR) (m:Mail):Fn Tryz.prog gb 309 [.agg (LineR.pc l), .agg (Mail.pc m)] (.int .i64 (Fb_ l m)):=by
  refine fC Tryz.func309 tv91 Tryz.ntmps309 fun w N H hG=>?_;have l_items_l:l.items.length<=140737488355328:=w.1.1.1;have m_head_l:m.head.length<=140737488355328:=w.2.1.2.2.2.1.1;have e0:=Fb_.eq_1 l m;generalize Fb_ l m=z at e0 ⊢;refine gm tv91 11 [0,1] fun B2=>?_;refine call (Ii_ _) rfl rfl fun w4=>?_;have :=L8_ m;have hmo4:=fun h=>G6_ (m:=m) h;refine gx tv91 9 ?_;refine cN e0 (fun p7 e8=>?_) (fun p10 e11=>?_)
  · refine gx tv91 8 ?_;subst e8;exact qr1
  refine gx tv91 13 ?_;refine aN [2,3,4,5,6,7] 16 mixd ?_;refine gXy tv91 [0,1,2,3,4,5,6] 9 ?_;refine vqg 7 [20,22] rfl (by kernel_rfl) rfl rfl (fun hc=>qidx tv91 (((l.items.length:Int)-1)).toNat rfl rfl (by first|omega|(simp only[gOf,bl2] at *;omega)) (getG (by first|omega|(simp only[gOf,bl2] at *;omega))) rfl rfl rfl rfl) ⟨(fun hc=>hc),(fun hc=>hc),trivial⟩ rfl fun _=>?_;refine gXy tv91 [8,9,10,11,12,13,14,15] 0 ?_;refine vD ?_;refine gx tv91 1 ?_;refine cE e11 (fun h12 e17=>?_) (fun h12 e18=>?_)
  · have h13:=bl h12;have p14:=dt h13;have h15:=br h12;have p16:=dt h15;refine gx tv91 8 ?_;subst e17;exact qr1
  refine gx tv91 7 ?_;refine cD e18 (fun p20 e21=>?_) (fun p22 e23=>?_)
  · refine gx tv91 8 ?_;subst e21;exact qr1
  refine gx tv91 9 ?_;subst e23;exact qr1
theorem K0_ (l:LineR):Fn Tryz.prog gb 262 [.agg (LineR.pc l), .fn 263 [] []] (.int .i64 (Dt_ l)):=by
  refine fC Tryz.func262 tv91 Tryz.ntmps262 fun w N H hG=>?_;have e0:=Dt_.eq_1 l;refine gm tv91 11 [0,1] fun B2=>?_;refine freeze (i:=1) (t:=3) rfl rfl rfl rfl ?_;refine gx tv91 1 ?_;refine call (Q1_ _ _ _ _ (fun z_4:ItemR=>(Gw_ z_4)) (fun z_4=>Oi_ z_4)) rfl rfl fun w5=>?_;have hix5:=Hw_ (fun z_4:ItemR=>(Gw_ z_4)) l.items;refine gx tv91 4 ?_;exact rt1 rfl rfl (P_ (fun r:Int=> .int .i64 r) e0 (ple rfl))
theorem Oj_ (l:LineR) (so:Int):Fn Tryz.prog gb 262 [.agg (LineR.pc l), .fn 269 [] [.el [.int .u64 so] 0]] (.int .i64 (Ef_ l so)):=by
  refine fC Tryz.func262 tv91 Tryz.ntmps262 fun w N H hG=>?_;have e0:=Ef_.eq_1 l so;refine gm tv91 11 [0,1] fun B2=>?_;refine freeze (i:=1) (t:=3) rfl rfl rfl rfl ?_;refine gx tv91 1 ?_;refine call (Q1_ _ _ _ _ (fun z_4:ItemR=>(Gd_ z_4 so)) (fun z_4=>Nm_ z_4 so)) rfl rfl fun w5=>?_;have hix5:=Hw_ (fun z_4:ItemR=>(Gd_ z_4 so)) l.items;refine gx tv91 4 ?_;exact rt1 rfl rfl (P_ (fun r:Int=> .int .i64 r) e0 (ple rfl))
abbrev R2_:(LineR×Int)->PV:=fun r=> .tup [.agg (LineR.pc r.1), .int .i64 r.2]
abbrev R3_:ItemR->PV:=fun r=> .agg (ItemR.pc r)
theorem cb213:R_ Tryz.prog 213:=L_ Tryz.func213 (by kernel_rfl) (by kernel_rfl)
theorem cb214:R_ Tryz.prog 214:=L_ Tryz.func214 (by kernel_rfl) (by kernel_rfl)
theorem cb264:R_ Tryz.prog 264:=L_ Tryz.func264 (by kernel_rfl) (by kernel_rfl)
theorem cb266:R_ Tryz.prog 266:=L_ Tryz.func266 (by kernel_rfl) (by kernel_rfl)
theorem fl75_1:Fld Tryz.prog 75 1 7:=fun b o w=>by kernel_rfl
theorem fl75_2:Fld Tryz.prog 75 2 8:=fun b o w=>by kernel_rfl
abbrev ty47:TI:=⟨.agg [(0,1),(1,1)],2,32,[.int .u64 0, .sl Mail.pc []]⟩
abbrev ty50:TI:=⟨.agg [(0,1),(1,1),(2,1),(3,32)],35,552,[.int .u64 0, .int .i64 0, .sl RowR.pc [], .int .u64 0, .sl Mail.pc [], .int .u64 0, .sl Mail.pc [], .int .u64 0, .sl Mail.pc [], .int .u64 0, .sl Mail.pc [], .int .u64 0, .sl Mail.pc [], .int .u64 0, .sl Mail.pc [], .int .u64 0, .sl Mail.pc [], .int .u64 0, .sl Mail.pc [], .int .u64 0, .sl Mail.pc [], .int .u64 0, .sl Mail.pc [], .int .u64 0, .sl Mail.pc [], .int .u64 0, .sl Mail.pc [], .int .u64 0, .sl Mail.pc [], .int .u64 0, .sl Mail.pc [], .int .u64 0, .sl Mail.pc [], .int .u64 0, .sl Mail.pc []]⟩
def tbv92:Tb:=[(3,ty3),(4,ty4),(9,ty9),(22,ty22),(44,ty44),(45,ty45),(47,ty47),(50,ty50),(66,ty66),(71,ty71),(75,ty75),(238,X4_),(240,Sl_),(242,ty242),(399,ty399),(408,ty408)]
theorem tv92:tbB Tryz.prog tbv92=true:=by kernel_rfl
theorem Lr_ (l:LineR) (x:ItemR) (hh:x.mail.head.length<=1000000:=by omega):Fn Tryz.prog gb 278 [.agg (LineR.pc l), .agg (ItemR.pc x)] (.tup [.agg (LineR.pc ((Ew_ l x).1)), .int .i64 ((Ew_ l x).2)]):=by
  refine fC Tryz.func278 tv92 Tryz.ntmps278 fun w N H hG=>?_;have e0:=Ew_.eq_1 l x;generalize Ew_ l x=z at e0 ⊢;refine gm tv92 14 [0,1,2] fun B2=>?_;refine cV e0 R0_ (Og_ _ _) rfl fun r hr5 e7 w6=>?_
  (try have hA7:=@W3_ l x.mail;(try rw[<- hr5] at hA7))
  refine gx tv92 9 ?_;refine cN e7 (fun p11 e12=>?_) (fun p15 e16=>?_)
  · refine gm tv92 10 [] fun _=>?_;subst e12;exact qr2
  refine gx tv92 3 ?_;refine aN [2,3,4,5,6,7,8] 10 mixd ?_;refine gX tv92 [0,1,2] 7 ?_;refine vE 3 rfl (eC (Go_ _) rfl ?_);generalize hr18:B7_ x=r1;intro w17;have e19:=e16.trans (Co_ hr18.symm);refine vE 4 rfl (bsl 3 ItemR.pc [r1] tv92 rfl rfl rfl rfl rfl (fun _=>rfl) rfl (by decide) (by decide) rfl fun u20=>?_);refine vE 5 rfl (So_ 3 rfl (bsl 3 (slc ItemR.pc) [l.items,[r1]] tv92 rfl rfl rfl rfl rfl (fun _=>rfl) rfl (by decide) (by decide) rfl fun u21=>?_));refine vE 6 rfl (So_ 3 rfl (Ym_ (eC (Qq_ _) rfl fun w22=>?_)));have hfl22:([l.items,[r1]].flatten).length=l.items.length+1:=by simp only[List.flatten_cons,List.flatten_nil,List.length_append,List.length_nil,List.length_cons,Nat.add_zero,Nat.zero_add]
  refine gX tv92 [7] 2 ?_;refine vT 8 rfl (sA tv92 ?_);refine gX tv92 [9] 0 ?_;refine vD ?_;refine gx tv92 2 ?_;subst e19;exact qr2
theorem I6_ (l:LineR) (m:Mail) (hh:m.head.length<=1000000:=by omega):Fn Tryz.prog gb 259 [.agg (LineR.pc l), .agg (Mail.pc m)] (.tup [.agg (LineR.pc ((De_ l m).1)), .int .i64 ((De_ l m).2)]):=by
  refine fC Tryz.func259 tv92 Tryz.ntmps259 fun w N H hG=>?_;have e0:=De_.eq_1 l m;refine gm tv92 13 [0,1,2] fun B2=>?_;refine cV e0 R2_ (Lr_ _ (⟨m,false,false⟩:ItemR)) rfl fun r hr5 e7 w6=>?_;refine gm tv92 7 [] fun _=>?_;exact rt2 rfl rfl (P_ (fun r:LineR×Int=> .tup [.agg (LineR.pc r.1), .int .i64 r.2]) e7 (ple rfl))
theorem Jv_ (l:LineR) (id:Int) (hl:LnOk l:=by assumption):Fn Tryz.prog gb 207 [.agg (LineR.pc l), .int .u64 id] (.tup [.agg (LineR.pc ((A1_ l id).1)), .agg (ItemR.pc ((A1_ l id).2.1)), .int .i64 ((A1_ l id).2.2)]):=by
  refine fC Tryz.func207 tv92 Tryz.ntmps207 fun w N H hG=>?_;have hl0:=hl;obtain⟨hl1,hl2,hl3⟩:=hl0;have e0:=A1_.eq_1 l id;generalize A1_ l id=z at e0 ⊢;refine gm tv92 12 [0,1,2] fun B2=>?_;refine cV e0 R0_ (L4_ _ _) rfl fun r hr5 e7 w6=>?_;have hA7:=lof_b l id
  (try rw[<- hr5] at hA7)
  refine gx tv92 10 ?_;refine cD e7 (fun p10 e11=>?_) (fun p13 e14=>?_)
  · refine gm tv92 11 [] fun _=>?_;subst e11;exact qr3
  have hc15:=getG (xs:=l.items) (k:=(r).toNat) (by omega);have hz_hc15:=(hl2 (gt l.items ((r).toNat)) (List.mem_of_getElem? hc15)).1;refine gx tv92 7 ?_;refine q1 (qidx tv92 (r).toNat rfl rfl (by omega) hc15 rfl rfl rfl rfl) rfl fun w16=>?_;refine gx tv92 1 ?_;refine cV e14 R3_ (Go_ _) rfl fun r1 hr17 e19 w18=>?_;refine gm tv92 5 [3] fun B21=>?_;refine aN [1,2,4,5,6,7,8,9] 16 mixd ?_;refine gX tv92 [0,1,2] 13 ?_;refine vq 3 (lshi tv92 (r).toNat rfl rfl rfl rfl rfl (fun _=>rfl) (by omega) (by omega)) rfl (by kernel_rfl) rfl fun w22=>?_;refine gXy tv92 [4,5,6,7] 8 ?_;refine vq 8 (lslo tv92 ((r+1)).toNat rfl rfl rfl rfl rfl (fun _=>rfl) (by omega) (by omega)) rfl (by kernel_rfl) rfl fun w23=>?_;refine gX tv92 [12] 6 ?_;refine vE 9 rfl (bsl 4 (slc ItemR.pc) [(l.items.take (r).toNat),(l.items.drop ((r+1)).toNat)] tv92 rfl rfl rfl rfl rfl (fun _=>rfl) rfl (by decide) (by decide) rfl fun u24=>?_);refine vE 10 rfl (So_ 4 rfl (Ym_ (eC (Qq_ _) rfl fun w25=>?_)));have hfl25:([(l.items.take (r).toNat),(l.items.drop ((r+1)).toNat)].flatten).length=(l.items.take (r).toNat).length+(l.items.drop ((r+1)).toNat).length:=by simp only[List.flatten_cons,List.flatten_nil,List.length_append,List.length_nil,List.length_cons,Nat.add_zero,Nat.zero_add]
  refine gX tv92 [11] 3 ?_;refine vE 13 rfl (sA tv92 ?_);refine vT 14 rfl (sA tv92 ?_);refine gX tv92 [15] 0 ?_;refine vD ?_;refine gx tv92 2 ?_;subst e19;exact qr3
theorem Kz_ (l:LineR) (k:Int) (hl:LnOk l:=by assumption) (hk:k<l.items.length:=by omega):Fn Tryz.prog gb 268 [.agg (LineR.pc l), .int .i64 k] (.tup [.agg (Mail.pc ((Cz_ l k).1)), .bool ((Cz_ l k).2)]):=by
  refine fC Tryz.func268 tv92 Tryz.ntmps268 fun w N H hG=>?_;have hl0:=hl;obtain⟨hl1,hl2,hl3⟩:=hl0;have e0:=Cz_.eq_1 l k;generalize Cz_ l k=z at e0 ⊢;refine gm tv92 14 [0,1] fun B2=>?_;refine cD e0 (fun p5 e6=>?_) (fun p8 e9=>?_)
  · refine gm tv92 9 [] fun _=>?_;subst e6;exact qr2
  have hc10:=getG (xs:=l.items) (k:=(k).toNat) (by omega);have hz_hc10:=(hl2 (gt l.items ((k).toNat)) (List.mem_of_getElem? hc10)).1;refine gx tv92 7 ?_;refine q1 (qidx tv92 (k).toNat rfl rfl (by omega) hc10 rfl rfl rfl rfl) rfl fun w11=>?_;refine gx tv92 2 ?_;refine cV e9 R1_ (F2_ _) rfl fun r hr12 e14 w13=>?_;refine gm tv92 5 [] fun _=>?_;subst e14;exact qr2
theorem O9_ (l:LineR):Fn Tryz.prog gb 142 [.agg (LineR.pc l)] (.int .i64 (E5_ l)):=by
  refine fC Tryz.func142 tv92 Tryz.ntmps142 fun w N H hG=>?_;have l_items_l:l.items.length<=140737488355328:=w.1.1.1;have e0:=E5_.eq_1 l;refine gm tv92 21 [0] fun B2=>?_;refine loop (ι:=Nat×Int) [2,7,8] [0] (fun ⟨k,n⟩=>[(9, .int .i64 (k:Int)),(3, .int .i64 n)]) (fun ⟨k,n⟩=>[]) (fun ⟨k,n⟩=>k<=l.items.length/\E5_ l=Bv_ (l.items.drop k) n/\0<=n/\n<=3000*k) (fun ⟨k,n⟩=>l.items.length-k) ⟨0,0⟩ ⟨rfl,rfl,trivial⟩ trivial ?_ ?_
  · exact⟨Nat.zero_le _,e0,(by first|omega|(simp;done)|(simp;omega))⟩
  rintro⟨k,n⟩ ⟨hp3_1,hp3_2,hp3_3⟩;refine gx tv92 6 ?_;refine cn rfl (fun p5=>?_) fun p15=>?_
  · have e6:=B0_ (f:=fun zz=>Bv_ zz n) hp3_2 (Fz_ (by omega)) (Bv_.eq_2 _ _ _);have hc7:=getG (xs:=l.items) (k:=k) (by omega);refine gx tv92 6 ?_;refine q1 (qidx tv92 k rfl rfl rfl hc7 rfl rfl rfl rfl) rfl fun w8=>?_;refine gm tv92 9 [1] fun B10=>?_;refine cV e6 R0_ (Kf_ _) rfl fun r hr11 e13 w12=>?_;have hA13:=To_ ((gt l.items k).mail)
    (try rw[<- hr11] at hA13)
    refine gy tv92 9 ?_;refine next ⟨(k+1),(n+r)⟩ rfl rfl ⟨rfl,rfl,trivial⟩ trivial ?_ ?_
    · (try simp only[]);omega
    exact⟨by (try simp only[]);omega,e13,by (try simp only[]);omega⟩
  have e16:=B0_ (f:=fun zz=>Bv_ zz n) hp3_2 (F0_ (by omega)) (Bv_.eq_1 _);refine gx tv92 12 ?_;exact rt1 rfl rfl (P_ (fun r:Int=> .int .i64 r) e16 (ple rfl))
theorem Ig_ (l:LineR) (hl:LnOk l:=by assumption):Fn Tryz.prog gb 205 [.agg (LineR.pc l)] (.tup [.agg (LineR.pc ((Db_ l).1)), .agg (ItemR.pc ((Db_ l).2.1)), .bool ((Db_ l).2.2)]):=by
  refine fC Tryz.func205 tv92 Tryz.ntmps205 fun w N H hG=>?_;have hl0:=hl;obtain⟨hl1,hl2,hl3⟩:=hl0;have e0:=Db_.eq_1 l;generalize Db_ l=z at e0 ⊢;refine gm tv92 11 [0,1,2] fun B2=>?_;refine cV e0 R0_ (K0_ _) rfl fun r hr5 e7 w6=>?_;have hA7:=Qc_ l
  (try rw[<- hr5] at hA7)
  refine gx tv92 10 ?_;refine cD e7 (fun p10 e11=>?_) (fun p13 e14=>?_)
  · refine gm tv92 11 [] fun _=>?_;subst e11;exact qr3
  refine gx tv92 6 ?_;refine hinl [] tv92 Tryz.func213 rfl Tryz.ntmps213 cb213 rfl rfl rfl rfl fun Hc15 hHc15=>?_;refine gm tv92 10 [3,4] fun B17=>?_;refine ef (ecallo 5 (Nn_ _) rfl rfl fun u20 w19=>?_);refine gx tv92 8 ?_;refine so_osl (t:=12) 5 rfl rfl ?_;refine q1 (eidx (r).toNat tv92 rfl rfl rfl rfl rfl rfl rfl (by omega) (by omega)) rfl fun w21=>?_;refine hinl [12] tv92 Tryz.func264 rfl Tryz.ntmps264 cb264 rfl rfl rfl rfl fun Hc22 hHc22=>?_;refine gx tv92 3 ?_;refine q1 (efld rfl fl75_1) rfl fun w23=>?_;have hc24:=getG (xs:=l.items) (k:=(r).toNat) (by omega);have hz_hc24:=(hl2 (gt l.items ((r).toNat)) (List.mem_of_getElem? hc24)).1;refine ef (est1 (i:=5) ((r).toNat) 7 (⟨(gt l.items ((r).toNat)).mail,true,(gt l.items ((r).toNat)).again⟩:ItemR) tv92 rfl rfl rfl rfl rfl rfl (by omega) rfl (by decide) (fun _ h=>by obtain rfl :=Option.some.inj (h.symm.trans hc24);rfl) ?_);have hset24:(l.items.set ((r).toNat) (⟨(gt l.items ((r).toNat)).mail,true,(gt l.items ((r).toNat)).again⟩:ItemR)).length=l.items.length:=List.length_set ..;refine gx tv92 1 ?_;refine inln rfl rfl rfl ⟨rfl,trivial⟩ ?_;refine gx tv92 5 ?_;refine so_osl (t:=16) 5 rfl rfl ?_;refine so_osl (t:=10) 5 rfl rfl ?_;refine so_osl (t:=7) 5 rfl rfl ?_;refine give 5 rfl ?_;refine gm tv92 5 [] fun _=>?_;refine inlr rfl rfl rfl trivial ?_;refine gm tv92 4 [] fun _=>?_;refine aN [1,2,5,6,7,8,9,10] 10 mixd ?_;refine gX tv92 [0,1,2,3] 6 ?_;have hc28:=getG (xs:=(l.items.set ((r).toNat) (⟨(gt l.items ((r).toNat)).mail,true,(gt l.items ((r).toNat)).again⟩:ItemR))) (k:=(r).toNat) (by omega);have hz_hc28:((gt (l.items.set ((r).toNat) (⟨(gt l.items ((r).toNat)).mail,true,(gt l.items ((r).toNat)).again⟩:ItemR)) ((r).toNat))).mail.head.length<=8:=by rw[V7_ (by (try simp only[List.length_set]);omega)];(try rw[V7_ (by omega)]);exact (hl2 _ (List.mem_of_getElem? (getG (by omega)))).1
  refine vq 4 (qidx tv92 (r).toNat rfl rfl (by omega) hc28 rfl rfl rfl rfl) rfl (by kernel_rfl) rfl fun w29=>?_;refine gX tv92 [5] 4 ?_;refine vE 6 rfl (eC (Go_ _) rfl ?_);generalize hr31:B7_ (gt (l.items.set ((r).toNat) (⟨(gt l.items ((r).toNat)).mail,true,(gt l.items ((r).toNat)).again⟩:ItemR)) ((r).toNat))=r1;intro w30;have e32:=e14.trans (Co_ hr31.symm);refine vE 7 rfl (sA tv92 ?_);refine vT 8 rfl (sA tv92 ?_);refine gX tv92 [9] 0 ?_;refine vD ?_;refine gx tv92 2 ?_;subst e32;exact qr3
theorem Ky_ (l:LineR) (id:Int) (hl:LnOk l:=by assumption):Fn Tryz.prog gb 206 [.agg (LineR.pc l), .int .u64 id] (.tup [.agg (LineR.pc ((E3_ l id).1)), .int .i64 ((E3_ l id).2)]):=by
  refine fC Tryz.func206 tv92 Tryz.ntmps206 fun w N H hG=>?_;have hl0:=hl;obtain⟨hl1,hl2,hl3⟩:=hl0;have e0:=E3_.eq_1 l id;generalize E3_ l id=z at e0 ⊢;refine gm tv92 11 [0,1] fun B2=>?_;refine cV e0 R0_ (L4_ _ _) rfl fun r hr4 e6 w5=>?_;have hA6:=lof_b l id
  (try rw[<- hr4] at hA6)
  refine gx tv92 12 ?_;refine cD e6 (fun p9 e10=>?_) (fun p12 e13=>?_)
  · refine gm tv92 10 [] fun _=>?_;subst e10;exact qr2
  have hc14:=getG (xs:=l.items) (k:=(r).toNat) (by omega);have hz_hc14:=(hl2 (gt l.items ((r).toNat)) (List.mem_of_getElem? hc14)).1;refine gx tv92 5 ?_;refine q1 (qidx tv92 (r).toNat rfl rfl (by omega) hc14 rfl rfl rfl rfl) rfl fun w15=>?_;refine gx tv92 6 ?_;refine cE e13 (fun h16 e18=>?_) (fun h16 e21=>?_)
  · have h17:=Dk_ h16;refine gm tv92 10 [] fun _=>?_;subst e18;exact qr2
  have h20:=Ct_ h16;refine gx tv92 7 ?_;refine hinl [] tv92 Tryz.func213 rfl Tryz.ntmps213 cb213 rfl rfl rfl rfl fun Hc22 hHc22=>?_;refine gm tv92 10 [2,3] fun B24=>?_;refine ef (ecallo 4 (Nn_ _) rfl rfl fun u27 w26=>?_);refine gx tv92 8 ?_;refine so_osl (t:=12) 4 rfl rfl ?_;refine q1 (eidx (r).toNat tv92 rfl rfl rfl rfl rfl rfl rfl (by omega) (by omega)) rfl fun w28=>?_;refine hinl [12] tv92 Tryz.func266 rfl Tryz.ntmps266 cb266 rfl rfl rfl rfl fun Hc29 hHc29=>?_;refine gx tv92 4 ?_;refine q1 (efld rfl fl75_1) rfl fun w30=>?_;refine ef (est1 (i:=4) ((r).toNat) 7 (⟨(gt l.items ((r).toNat)).mail,false,(gt l.items ((r).toNat)).again⟩:ItemR) tv92 rfl rfl rfl rfl rfl rfl (by omega) rfl (by decide) (fun _ h=>by obtain rfl :=Option.some.inj (h.symm.trans hc14);rfl) ?_);have hset30:(l.items.set ((r).toNat) (⟨(gt l.items ((r).toNat)).mail,false,(gt l.items ((r).toNat)).again⟩:ItemR)).length=l.items.length:=List.length_set ..;refine gx tv92 1 ?_;refine q1 (efld rfl fl75_2) rfl fun w32=>?_;have hc33:=getG (xs:=(l.items.set ((r).toNat) (⟨(gt l.items ((r).toNat)).mail,false,(gt l.items ((r).toNat)).again⟩:ItemR))) (k:=(r).toNat) (by omega);have hz_hc33:((gt (l.items.set ((r).toNat) (⟨(gt l.items ((r).toNat)).mail,false,(gt l.items ((r).toNat)).again⟩:ItemR)) ((r).toNat))).mail.head.length<=8:=by rw[V7_ (by (try simp only[List.length_set]);omega)];(try rw[V7_ (by omega)]);exact (hl2 _ (List.mem_of_getElem? (getG (by omega)))).1
  refine ef (est1 (i:=4) ((r).toNat) 8 (⟨(gt (l.items.set ((r).toNat) (⟨(gt l.items ((r).toNat)).mail,false,(gt l.items ((r).toNat)).again⟩:ItemR)) ((r).toNat)).mail,(gt (l.items.set ((r).toNat) (⟨(gt l.items ((r).toNat)).mail,false,(gt l.items ((r).toNat)).again⟩:ItemR)) ((r).toNat)).lent,true⟩:ItemR) tv92 rfl rfl rfl rfl rfl rfl (by omega) rfl (by decide) (fun _ h=>by obtain rfl :=Option.some.inj (h.symm.trans hc33);rfl) ?_);have hset33:((l.items.set ((r).toNat) (⟨(gt l.items ((r).toNat)).mail,false,(gt l.items ((r).toNat)).again⟩:ItemR)).set ((r).toNat) (⟨(gt (l.items.set ((r).toNat) (⟨(gt l.items ((r).toNat)).mail,false,(gt l.items ((r).toNat)).again⟩:ItemR)) ((r).toNat)).mail,(gt (l.items.set ((r).toNat) (⟨(gt l.items ((r).toNat)).mail,false,(gt l.items ((r).toNat)).again⟩:ItemR)) ((r).toNat)).lent,true⟩:ItemR)).length=(l.items.set ((r).toNat) (⟨(gt l.items ((r).toNat)).mail,false,(gt l.items ((r).toNat)).again⟩:ItemR)).length:=List.length_set ..;refine gx tv92 1 ?_;refine inln rfl rfl rfl ⟨rfl,trivial⟩ ?_;refine gx tv92 5 ?_;refine so_osl (t:=16) 4 rfl rfl ?_;refine so_osl (t:=10) 4 rfl rfl ?_;refine so_osl (t:=7) 4 rfl rfl ?_;refine give 4 rfl ?_;refine gm tv92 5 [] fun _=>?_;refine inlr rfl rfl rfl trivial ?_;refine gm tv92 5 [] fun _=>?_;subst e21;exact qr2
theorem Pa_ (l:LineR) (hl:LnOk l:=by assumption):Fn Tryz.prog gb 128 [.agg (LineR.pc l)] (.agg (LineR.pc (Gj_ l))):=by
  refine fC Tryz.func128 tv92 Tryz.ntmps128 fun w N H hG=>?_;have hl0:=hl;obtain⟨hl1,hl2,hl3⟩:=hl0;have e0:=Gj_.eq_1 l;refine gm tv92 16 [0,1] fun B2=>?_;refine loop (ι:=Nat×LineR) [1,2,6,7] [1] (fun ⟨k,x⟩=>[(8, .int .i64 (k:Int))]) (fun ⟨k,x⟩=>[(0, .box (B2 0) 240 (LineR.pc x))]) (fun ⟨k,x⟩=>k<=l.items.length/\Gj_ l=Ce_ (l.items.drop k) k x/\x.items.length=l.items.length) (fun ⟨k,x⟩=>l.items.length-k) ⟨0,l⟩ ⟨rfl,trivial⟩ ⟨rfl,trivial⟩ ?_ ?_
  · exact⟨Nat.zero_le _,e0,rfl⟩
  rintro⟨k,x⟩ ⟨hp4_1,hp4_2,hp4_3⟩;refine gx tv92 6 ?_;refine cn rfl (fun p6=>?_) fun p31=>?_
  · have e7:=B0_ (f:=fun zz=>Ce_ zz k x) hp4_2 (Fz_ (by omega)) (Ce_.eq_2 _ _ _ _);have hc8:=getG (xs:=l.items) (k:=k) (by omega);refine gx tv92 7 ?_;refine q1 (qidx tv92 k rfl rfl rfl hc8 rfl rfl rfl rfl) rfl fun w9=>?_;refine gm tv92 12 [2] fun B11=>?_;refine cE e7 (fun h12 e13=>?_) (fun h12 e30=>?_)
    · refine gx tv92 3 ?_;refine hinl [] tv92 Tryz.func213 rfl Tryz.ntmps213 cb213 rfl rfl rfl rfl fun Hc14 hHc14=>?_;refine gm tv92 10 [3,4] fun B16=>?_;refine ef (ecallo 5 (Nn_ _) rfl rfl fun u19 w18=>?_);refine gx tv92 8 ?_;refine so_osl (t:=12) 5 rfl rfl ?_;refine q1 (eidx k tv92 rfl rfl rfl rfl rfl rfl rfl rfl (by omega)) rfl fun w20=>?_;refine hinl [12] tv92 Tryz.func214 rfl Tryz.ntmps214 cb214 rfl rfl rfl rfl fun Hc21 hHc21=>?_;refine gx tv92 4 ?_;refine q1 (efld rfl fl75_1) rfl fun w22=>?_;have hc23:=getG (xs:=x.items) (k:=k) (by omega);refine ef (est1 (i:=5) k 7 (⟨(gt x.items k).mail,false,(gt x.items k).again⟩:ItemR) tv92 rfl rfl rfl rfl rfl rfl (by omega) rfl (by decide) (fun _ h=>by obtain rfl :=Option.some.inj (h.symm.trans hc23);rfl) ?_);have hset23:(x.items.set k (⟨(gt x.items k).mail,false,(gt x.items k).again⟩:ItemR)).length=x.items.length:=List.length_set ..;refine gx tv92 1 ?_;refine q1 (efld rfl fl75_2) rfl fun w25=>?_;have hc26:=getG (xs:=(x.items.set k (⟨(gt x.items k).mail,false,(gt x.items k).again⟩:ItemR))) (k:=k) (by omega);refine ef (est1 (i:=5) k 8 (⟨(gt (x.items.set k (⟨(gt x.items k).mail,false,(gt x.items k).again⟩:ItemR)) k).mail,(gt (x.items.set k (⟨(gt x.items k).mail,false,(gt x.items k).again⟩:ItemR)) k).lent,true⟩:ItemR) tv92 rfl rfl rfl rfl rfl rfl (by omega) rfl (by decide) (fun _ h=>by obtain rfl :=Option.some.inj (h.symm.trans hc26);rfl) ?_);have hset26:((x.items.set k (⟨(gt x.items k).mail,false,(gt x.items k).again⟩:ItemR)).set k (⟨(gt (x.items.set k (⟨(gt x.items k).mail,false,(gt x.items k).again⟩:ItemR)) k).mail,(gt (x.items.set k (⟨(gt x.items k).mail,false,(gt x.items k).again⟩:ItemR)) k).lent,true⟩:ItemR)).length=(x.items.set k (⟨(gt x.items k).mail,false,(gt x.items k).again⟩:ItemR)).length:=List.length_set ..;refine gx tv92 1 ?_;refine inln rfl rfl rfl ⟨rfl,trivial⟩ ?_;refine gx tv92 5 ?_;refine so_osl (t:=16) 5 rfl rfl ?_;refine so_osl (t:=10) 5 rfl rfl ?_;refine so_osl (t:=7) 5 rfl rfl ?_;refine give 5 rfl ?_;refine gm tv92 5 [] fun _=>?_;refine inlr rfl rfl rfl trivial ?_;refine gmy tv92 8 [] fun _=>?_;refine next ⟨(k+1),(⟨((x.items.set k (⟨(gt x.items k).mail,false,(gt x.items k).again⟩:ItemR)).set k (⟨(gt (x.items.set k (⟨(gt x.items k).mail,false,(gt x.items k).again⟩:ItemR)) k).mail,(gt (x.items.set k (⟨(gt x.items k).mail,false,(gt x.items k).again⟩:ItemR)) k).lent,true⟩:ItemR))⟩:LineR)⟩ rfl rfl ⟨rfl,trivial⟩ ⟨rfl,trivial⟩ ?_ ?_
      · (try simp only[]);omega
      exact⟨by (try simp only[]);omega,e13,by (try simp only[List.length_set]);omega⟩
    refine gy tv92 7 ?_;refine next ⟨(k+1),x⟩ rfl rfl ⟨rfl,trivial⟩ ⟨rfl,trivial⟩ ?_ ?_
    · (try simp only[]);omega
    exact⟨by (try simp only[]);omega,e30,by (try simp only[List.length_set]);omega⟩
  have e32:=B0_ (f:=fun zz=>Ce_ zz k x) hp4_2 (F0_ (by omega)) (Ce_.eq_1 _ _);refine gm tv92 12 [] fun _=>?_;exact rt1 rfl rfl (P_ (fun r:LineR=> .agg (LineR.pc r)) e32 (ple rfl))
theorem Ke_ (l:LineR) (hl:LnOk l:=by assumption):Fn Tryz.prog gb 258 [.agg (LineR.pc l)] (.tup [.agg (Mail.pc ((Ee_ l).1)), .bool ((Ee_ l).2)]):=by
  refine fC Tryz.func258 tv92 Tryz.ntmps258 fun w N H hG=>?_;have hl0:=hl;obtain⟨hl1,hl2,hl3⟩:=hl0;have e0:=Ee_.eq_1 l;refine gm tv92 8 [0,1] fun B2=>?_;refine aN [1,2,3,4,5,6,7] 8 mixd ?_;refine gX tv92 [0,1] 6 ?_;refine vC 2 rfl (K0_ _) rfl fun w4=>?_;have hB4:=Qc_ l;refine vE 3 rfl (eC (Kz_ _ _) rfl ?_);generalize hr7:Cz_ l (Dt_ l)=r;intro w6;have e8:=e0.trans (Co_ hr7.symm);refine gX tv92 [4,5] 2 ?_;refine vT 6 rfl (sA tv92 ?_);refine gX tv92 [7] 0 ?_;refine vD ?_;refine gx tv92 2 ?_;exact rt2 rfl rfl (P_ (fun r:Mail×Bool=> .tup [.agg (Mail.pc r.1), .bool r.2]) e8 (ple rfl))
theorem O8_ (l:LineR) (tick:Int) (hl:LnOk l:=by assumption):Fn Tryz.prog gb 208 [.agg (LineR.pc l), .int .u64 tick] (.tup [.agg (Mail.pc ((E4_ l tick).1)), .bool ((E4_ l tick).2)]):=by
  refine fC Tryz.func208 tv92 Tryz.ntmps208 fun w N H hG=>?_;have hl0:=hl;obtain⟨hl1,hl2,hl3⟩:=hl0;have e0:=E4_.eq_1 l tick;refine gm tv92 9 [0,1,2] fun B2=>?_;refine freezec (i:=1) (t:=3) rfl rfl rfl rfl ?_;refine aN [2,1,3,4,5,6,7] 9 mixd ?_;refine gX tv92 [0,1,2] 6 ?_;refine vC 3 rfl (Oj_ _ _) rfl fun w5=>?_;have hB5:=Y3_ l tick;refine vE 4 rfl (eC (Kz_ _ _) rfl ?_);generalize hr8:Cz_ l (Ef_ l tick)=r;intro w7;have e9:=e0.trans (Co_ hr8.symm);refine gX tv92 [5,6] 2 ?_;refine vT 7 rfl (sA tv92 ?_);refine gX tv92 [8] 0 ?_;refine vD ?_;refine gx tv92 2 ?_;exact rt2 rfl rfl (P_ (fun r:Mail×Bool=> .tup [.agg (Mail.pc r.1), .bool r.2]) e9 (ple rfl))
theorem Pw_ (l:LineR) (hl:LnOk l:=by assumption):Fn Tryz.prog gb 157 [.agg (LineR.pc l)] (.sl ItemR.pc (Ea_ l)):=by
  refine fC Tryz.func157 tv92 Tryz.ntmps157 fun w N H hG=>?_;have hl0:=hl;obtain⟨hl1,hl2,hl3⟩:=hl0;have e0:=Ea_.eq_1 l;refine gm tv92 21 [0] fun B2=>?_;refine sw_own (t:=3) (k:=9) (e:=75) 1 ItemR.pc rfl rfl ?_;refine loop (ι:=Nat×(List ItemR)×Value) [2,7,8] [0] (fun ⟨k,out,u_out⟩=>[(9, .int .i64 (k:Int)),(3, .osl 1)]) (fun ⟨k,out,u_out⟩=>[(1, .arr u_out 9 75 ItemR.pc out)]) (fun ⟨k,out,u_out⟩=>k<=l.items.length/\Ea_ l=Df_ (l.items.drop k) out/\out.length<=k) (fun ⟨k,out,u_out⟩=>l.items.length-k) ⟨0,[],(.slice none 0 0)⟩ ⟨rfl,rfl,trivial⟩ ⟨rfl,trivial⟩ ?_ ?_
  · exact⟨Nat.zero_le _,e0,(by first|omega|(simp;done)|(simp;omega))⟩
  rintro⟨k,out,u_out⟩ ⟨hp3_1,hp3_2,hp3_3⟩;refine gx tv92 6 ?_;refine cn rfl (fun p5=>?_) fun p16=>?_
  · have e6:=B0_ (f:=fun zz=>Df_ zz out) hp3_2 (Fz_ (by omega)) (Df_.eq_2 _ _ _);have hc7:=getG (xs:=l.items) (k:=k) (by omega);have hz_hc7:=(hl2 (gt l.items k) (List.mem_of_getElem? hc7)).1;refine gx tv92 6 ?_;refine q1 (qidx tv92 k rfl rfl rfl hc7 rfl rfl rfl rfl) rfl fun w8=>?_;refine gm tv92 8 [2] fun B10=>?_;refine cV e6 R3_ (Go_ _) rfl fun r hr11 e13 w12=>?_;refine ef (bsl 3 ItemR.pc [r] tv92 rfl rfl rfl rfl rfl (fun _=>rfl) rfl (by decide) (by decide) rfl fun u14=>?_);refine ef (app tv92 [r] rfl rfl rfl rfl rfl rfl rfl rfl rfl (src_o rfl rfl) (by first|omega|(simp;omega)) rfl fun u15=>?_);refine gy tv92 8 ?_;refine next ⟨(k+1),(out++[r]),(u15)⟩ rfl rfl ⟨rfl,rfl,trivial⟩ ⟨rfl,trivial⟩ ?_ ?_
    · (try simp only[]);omega
    exact⟨by (try simp only[]);omega,e13,(by (try simp only[List.length_append,List.length_cons,List.length_nil]);omega)⟩
  have e17:=B0_ (f:=fun zz=>Df_ zz out) hp3_2 (F0_ (by omega)) (Df_.eq_1 _);refine gx tv92 11 ?_;refine givec 1 rfl ?_;refine gx tv92 1 ?_;exact rt1 rfl rfl (P_ (fun r:(List ItemR)=> .sl ItemR.pc r) e17 (ple rfl))
theorem Hn_ (x:RiseR) (m:Mail) (hx:RiOk x:=by assumption) (hh:m.head.length<=1000000:=by omega):Fn Tryz.prog gb 261 [.agg (RiseR.pc x), .agg (Mail.pc m)] (.tup [.agg (RiseR.pc ((Bp_ x m).1)), .int .i64 ((Bp_ x m).2)]):=by
  refine fC Tryz.func261 tv92 Tryz.ntmps261 fun w N H hG=>?_;have hx0:=hx;obtain⟨hx1,hx2⟩:=hx0;have e0:=Bp_.eq_1 x m;generalize Bp_ x m=z at e0 ⊢;refine gm tv92 12 [0,1,2] fun B2=>?_;refine call (Ii_ _) rfl rfl fun w5=>?_;have :=L8_ m;have hmo5:=fun h=>G6_ (m:=m) h;refine gx tv92 9 ?_;refine cN e0 (fun p8 e9=>?_) (fun p12 e13=>?_)
  · refine gm tv92 10 [] fun _=>?_;subst e9;exact qr2
  refine gx tv92 10 ?_;refine cD e13 (fun p15 e16=>?_) (fun p18 e19=>?_)
  · refine gm tv92 9 [] fun _=>?_;subst e16;exact qr2
  refine gx tv92 3 ?_;refine aN [3,4,5,6,7,8] 8 mixd ?_;refine gX tv92 [0,1,2] 5 ?_;refine vE 3 rfl (eC (F2_ _) rfl ?_);generalize hr21:H_ m=r;intro w20;have e22:=e19.trans (Co_ hr21.symm);have hr21:=hr21.symm;refine vE 4 rfl (bsl 3 Mail.pc [r] tv92 rfl rfl rfl rfl rfl (fun _=>rfl) rfl (by decide) (by decide) rfl fun u23=>?_);refine vE 5 rfl (So_ 3 rfl (bsl 3 (slc Mail.pc) [x.kept,[r]] tv92 rfl rfl rfl rfl rfl (fun _=>rfl) rfl (by decide) (by decide) rfl fun u24=>?_));refine vE 6 rfl (So_ 3 rfl (Ym_ (eC (Ye_ _) rfl fun w25=>?_)));have hfl25:([x.kept,[r]].flatten).length=x.kept.length+1:=by simp only[List.flatten_cons,List.flatten_nil,List.length_append,List.length_nil,List.length_cons,Nat.add_zero,Nat.zero_add]
  refine gX tv92 [7] 0 ?_;refine vD ?_;refine gx tv92 2 ?_;refine aN [2,3,4,5,6,7,8] 12 mixd ?_;have :=F3_ (x.total+1);refine gXy tv92 [0,1,2,3,4,5,6,7] 4 ?_;refine vq 8 (lslo tv92 ((max 0 ((([x.kept,[r]].flatten).length:Int)-16))).toNat rfl rfl rfl rfl rfl (fun _=>rfl) (by (try dsimp only);omega) (by (try dsimp only);omega)) rfl (by kernel_rfl) rfl fun w27=>?_;refine gX tv92 [9] 2 ?_;refine vT 10 rfl (sA tv92 ?_);refine gX tv92 [11] 0 ?_;refine vD ?_;refine gx tv92 2 ?_;subst e22;exact qr2
theorem Kk_ (x:RiseR) (number:Int) (hx:RiOk x:=by assumption) (hk:x.total=0\/0<x.kept.length:=by first|assumption|omega|decide):Fn Tryz.prog gb 338 [.agg (RiseR.pc x), .int .u64 number] (.tup [.int .u64 ((Ff_ x number).1), .agg (Mail.pc ((Ff_ x number).2.1)), .bool ((Ff_ x number).2.2)]):=by
  refine fC Tryz.func338 tv92 Tryz.ntmps338 fun w N H hG=>?_;have x_total_r:0<=x.total/\x.total<=18446744073709551615:=w.1.1;have x_kept_l:x.kept.length<=140737488355328:=w.1.2.1.1;have number_r:0<=number/\number<=18446744073709551615:=w.2.1;have hx0:=hx;obtain⟨hx1,hx2⟩:=hx0;have e0:=Ff_.eq_1 x number;generalize Ff_ x number=z at e0 ⊢;refine gm tv92 17 [0,1] fun B2=>?_;refine cD e0 (fun p5 e6=>?_) (fun p8 e9=>?_)
  · refine gm tv92 10 [] fun _=>?_;subst e6;exact qr3
  refine gx tv92 9 ?_;refine q1 (qconv tv92 rfl rfl rfl rfl (J1_ (by omega))) rfl fun w10=>?_;have :=F3_ (x.total-(x.kept.length:Int));have :=F3_ ((IntKind.wrap .u64 (x.total-(x.kept.length:Int)))+1);have :=F3_ (number+1);have :=F3_ ((max (IntKind.wrap .u64 ((IntKind.wrap .u64 (x.total-(x.kept.length:Int)))+1)) (IntKind.wrap .u64 (number+1)))-(IntKind.wrap .u64 ((IntKind.wrap .u64 (x.total-(x.kept.length:Int)))+1)));have hc11:=getG (xs:=x.kept) (k:=((IntKind.wrap .u64 ((max (IntKind.wrap .u64 ((IntKind.wrap .u64 (x.total-(x.kept.length:Int)))+1)) (IntKind.wrap .u64 (number+1)))-(IntKind.wrap .u64 ((IntKind.wrap .u64 (x.total-(x.kept.length:Int)))+1))))).toNat) (by simp only[IntKind.wrap_u64] at *;omega);have hz_hc11:=hx2 (gt x.kept (((IntKind.wrap .u64 ((max (IntKind.wrap .u64 ((IntKind.wrap .u64 (x.total-(x.kept.length:Int)))+1)) (IntKind.wrap .u64 (number+1)))-(IntKind.wrap .u64 ((IntKind.wrap .u64 (x.total-(x.kept.length:Int)))+1))))).toNat)) (List.mem_of_getElem? hc11);refine gx tv92 22 ?_;refine q1 (qidx tv92 ((IntKind.wrap .u64 ((max (IntKind.wrap .u64 ((IntKind.wrap .u64 (x.total-(x.kept.length:Int)))+1)) (IntKind.wrap .u64 (number+1)))-(IntKind.wrap .u64 ((IntKind.wrap .u64 (x.total-(x.kept.length:Int)))+1))))).toNat rfl rfl (by simp only[IntKind.wrap_u64] at *;omega) hc11 rfl rfl rfl rfl) rfl fun w12=>?_;refine gx tv92 1 ?_;refine cV e9 R1_ (F2_ _) rfl fun r hr13 e15 w14=>?_;refine gm tv92 6 [] fun _=>?_;subst e15;exact qr3
theorem Os_ (x:RiseR):Fn Tryz.prog gb 146 [.agg (RiseR.pc x)] (.int .u64 (J2_ x)):=by
  refine fC Tryz.func146 tv92 Tryz.ntmps146 fun w N H hG=>?_;have e0:=J2_.eq_1 x;refine gm tv92 14 [0] fun B2=>?_;exact rt1 rfl rfl (P_ (fun r:Int=> .int .u64 r) e0 (ple rfl))
theorem Il_ (x:RiseR):Fn Tryz.prog gb 143 [.agg (RiseR.pc x)] (.int .i64 (Du_ x)):=by
  refine fC Tryz.func143 tv92 Tryz.ntmps143 fun w N H hG=>?_;have x_kept_l:x.kept.length<=140737488355328:=w.1.2.1.1;have e0:=Du_.eq_1 x;refine gm tv92 21 [0] fun B2=>?_;refine loop (ι:=Nat×Int) [2,7,8] [0] (fun ⟨k,n⟩=>[(9, .int .i64 (k:Int)),(3, .int .i64 n)]) (fun ⟨k,n⟩=>[]) (fun ⟨k,n⟩=>k<=x.kept.length/\Du_ x=Bx_ (x.kept.drop k) n/\0<=n/\n<=3000*k) (fun ⟨k,n⟩=>x.kept.length-k) ⟨0,0⟩ ⟨rfl,rfl,trivial⟩ trivial ?_ ?_
  · exact⟨Nat.zero_le _,e0,(by first|omega|(simp;done)|(simp;omega))⟩
  rintro⟨k,n⟩ ⟨hp3_1,hp3_2,hp3_3⟩;refine gx tv92 6 ?_;refine cn rfl (fun p5=>?_) fun p15=>?_
  · have e6:=B0_ (f:=fun zz=>Bx_ zz n) hp3_2 (Fz_ (by omega)) (Bx_.eq_2 _ _ _);have hc7:=getG (xs:=x.kept) (k:=k) (by omega);refine gx tv92 6 ?_;refine q1 (qidx tv92 k rfl rfl rfl hc7 rfl rfl rfl rfl) rfl fun w8=>?_;refine gm tv92 8 [1] fun B10=>?_;refine cV e6 R0_ (Kf_ _) rfl fun r hr11 e13 w12=>?_;have hA13:=To_ (gt x.kept k)
    (try rw[<- hr11] at hA13)
    refine gy tv92 9 ?_;refine next ⟨(k+1),(n+r)⟩ rfl rfl ⟨rfl,rfl,trivial⟩ trivial ?_ ?_
    · (try simp only[]);omega
    exact⟨by (try simp only[]);omega,e13,by (try simp only[]);omega⟩
  have e16:=B0_ (f:=fun zz=>Bx_ zz n) hp3_2 (F0_ (by omega)) (Bx_.eq_1 _);refine gx tv92 12 ?_;exact rt1 rfl rfl (P_ (fun r:Int=> .int .i64 r) e16 (ple rfl))
theorem Ml_ (base:Int) (bytes:Int):Fn Tryz.prog gb 41 [.int .u64 base, .int .i64 bytes] (.agg (E_.pc (Dx_ base bytes))):=by
  refine fC Tryz.func41 tv92 Tryz.ntmps41 fun w N H hG=>?_;have e0:=Dx_.eq_1 base bytes;refine gm tv92 15 [0] fun B2=>?_;exact rt1 rfl rfl (P_ (fun r:E_=> .agg (E_.pc r)) e0 (ple rfl))
theorem Ne_ (q:QueueR):Fn Tryz.prog gb 193 [.agg (QueueR.pc q)] (.int .i64 (Do_ q)):=by
  refine fC Tryz.func193 tv92 Tryz.ntmps193 fun w N H hG=>?_;have e0:=Do_.eq_1 q;generalize Do_ q=z at e0 ⊢;refine gm tv92 11 [0] fun B2=>?_;refine call (Dq_ _) rfl rfl fun w3=>?_;refine gx tv92 9 ?_;refine cN e0 (fun p6 e7=>?_) (fun p9 e10=>?_)
  · refine gx tv92 8 ?_;subst e7;exact qr1
  refine gy tv92 17 ?_;refine cE e10 (fun h11 e12=>?_) (fun h11 e17=>?_)
  · refine gx tv92 8 ?_;subst e12;exact qr1
  have h13:=orl h11;have p14:=df h13;have h15:=orr h11;have p16:=df h15;refine gx tv92 8 ?_;refine cN e17 (fun p20 e21=>?_) (fun p24 e25=>?_)
  · refine gx tv92 4 ?_;refine call (Dq_ _) rfl rfl fun w22=>?_;refine gx tv92 6 ?_;subst e21;exact qr1
  refine gx tv92 9 ?_;subst e25;exact qr1
theorem X0_ (x:RowR) (x1:Bs):Fn Tryz.prog gb 254 [.agg (RowR.pc x), .el [.str x1] 0] (.bool (Mm_ x x1)):=by
  refine fC Tryz.func254 tv92 Tryz.ntmps254 fun w N H hG=>?_;have e0:=Mm_.eq_1 x x1;refine gm tv92 17 [0] fun B2=>?_;exact rt1 rfl rfl (P_ (fun r:Bool=> .bool r) e0 (ple rfl))
theorem Dp_ (s:E_) (name:Bs):Fn Tryz.prog gb 194 [.agg (E_.pc s), .str name] (.int .i64 (X_ s name)):=by
  refine fC Tryz.func194 tv92 Tryz.ntmps194 fun w N H hG=>?_;have e0:=X_.eq_1 s name;refine gm tv92 11 [0,1] fun B2=>?_;refine freeze (i:=1) (t:=3) rfl rfl rfl rfl ?_;refine gx tv92 1 ?_;refine call (idxF_row _ _ _ _ (fun z_4:RowR=>(Mm_ z_4 name)) (fun z_4=>X0_ z_4 name)) rfl rfl fun w5=>?_;have hix5:=Hw_ (fun z_4:RowR=>(Mm_ z_4 name)) s.rows;refine gx tv92 4 ?_;exact rt1 rfl rfl (P_ (fun r:Int=> .int .i64 r) e0 (ple rfl))
theorem fl242_1:Fld Tryz.prog 242 1 4:=fun b o w=>by kernel_rfl
theorem sz47:Sz Tryz.prog 47 2:=fun w=>by kernel_rfl
abbrev ty48:TI:=⟨.arr,32,512,[.int .u64 0, .sl Mail.pc [], .int .u64 0, .sl Mail.pc [], .int .u64 0, .sl Mail.pc [], .int .u64 0, .sl Mail.pc [], .int .u64 0, .sl Mail.pc [], .int .u64 0, .sl Mail.pc [], .int .u64 0, .sl Mail.pc [], .int .u64 0, .sl Mail.pc [], .int .u64 0, .sl Mail.pc [], .int .u64 0, .sl Mail.pc [], .int .u64 0, .sl Mail.pc [], .int .u64 0, .sl Mail.pc [], .int .u64 0, .sl Mail.pc [], .int .u64 0, .sl Mail.pc [], .int .u64 0, .sl Mail.pc [], .int .u64 0, .sl Mail.pc []]⟩
abbrev ty187:TI:=⟨.slc 66,1,24,[.sl QueueR.pc []]⟩
def tbv93:Tb:=[(9,ty9),(22,ty22),(44,ty44),(47,ty47),(48,ty48),(50,ty50),(66,ty66),(187,ty187),(240,Sl_),(242,ty242),(360,ty360)]
theorem tv93:tbB Tryz.prog tbv93=true:=by kernel_rfl
theorem Hv_ (s:E_) (q:QueueR):Fn Tryz.prog gb 114 [.agg (E_.pc s), .agg (QueueR.pc q)] (.tup [.agg (E_.pc ((A3_ s q).1)), .int .i64 ((A3_ s q).2)]):=by
  refine fC Tryz.func114 tv93 Tryz.ntmps114 fun w N H hG=>?_;have e0:=A3_.eq_1 s q;generalize A3_ s q=z at e0 ⊢;refine gm tv93 12 [0,1,2] fun B2=>?_;refine cV e0 R0_ (Ne_ _) rfl fun r hr5 e7 w6=>?_;refine gx tv93 9 ?_;refine cN e7 (fun p10 e11=>?_) (fun p14 e15=>?_)
  · refine gm tv93 10 [] fun _=>?_;subst e11;exact qr2
  refine gx tv93 8 ?_;refine cV e15 R0_ (Dp_ _ _) rfl fun r1 hr16 e18 w17=>?_;have hA18:=at_b s q.name
  (try rw[<- hr16] at hA18)
  refine gx tv93 5 ?_;refine aN [3,4,5,6,7,8] 13 mixd ?_;refine gXy tv93 [0,1,2,3,4,5] 7 ?_;refine vqg 6 [23,24] rfl (by kernel_rfl) rfl rfl (fun hc=>qidx tv93 (r1).toNat rfl rfl (by first|omega|(simp only[gOf,bl2] at *;omega)) (getG (by first|omega|(simp only[gOf,bl2] at *;omega))) rfl rfl rfl rfl) ⟨(fun hc=>hc),(fun hc=>hc),trivial⟩ rfl fun _=>?_;refine gXy tv93 [7,8,9] 3 ?_;refine vqg 10 [27,28] rfl (by kernel_rfl) rfl rfl (fun hc=>saeq rfl rfl eqg66 (veq66 ((gt s.rows ((r1).toNat)).q) q)) ⟨(fun hc=>hc),(fun hc=>hc),trivial⟩ rfl fun _=>?_;refine gXy tv93 [11,12] 0 ?_;refine vD ?_;refine gx tv93 1 ?_;refine cE e18 (fun h20 e25=>?_) (fun h20 e27=>?_)
  · have h21:=bl h20;have p22:=dt h21;have h23:=br h20;have p24:=dt h23;refine gm tv93 10 [] fun _=>?_;subst e25;exact qr2
  refine gx tv93 7 ?_;refine cD e27 (fun p29 e30=>?_) (fun p32 e33=>?_)
  · refine gm tv93 10 [] fun _=>?_;subst e30;exact qr2
  refine gx tv93 9 ?_;refine cD e33 (fun p35 e36=>?_) (fun p38 e39=>?_)
  · refine gm tv93 10 [] fun _=>?_;subst e36;exact qr2
  refine gx tv93 9 ?_;refine ef (bsl 3 RowR.pc [(⟨q,(⟨[]⟩:LineR)⟩:RowR)] tv93 rfl rfl rfl rfl rfl (fun _=>rfl) rfl (by decide) (by decide) rfl fun u40=>?_);refine give 3 rfl ?_;refine ef (bsl 3 (slc RowR.pc) [s.rows,[(⟨q,(⟨[]⟩:LineR)⟩:RowR)]] tv93 rfl rfl rfl rfl rfl (fun _=>rfl) rfl (by decide) (by decide) rfl fun u41=>?_);refine give 3 rfl ?_;refine call (S1_ _) rfl rfl fun w42=>?_;have hfl42:([s.rows,[(⟨q,(⟨[]⟩:LineR)⟩:RowR)]].flatten).length=s.rows.length+1:=by simp only[List.flatten_cons,List.flatten_nil,List.length_append,List.length_nil,List.length_cons,Nat.add_zero,Nat.zero_add]
  refine gm tv93 12 [] fun _=>?_;subst e39;exact qr2
theorem Nt_ (s:E_) (name:Bs) (hs:s.rows.length<=1000:=by first|omega|(simp;omega)|decide +kernel):Fn Tryz.prog gb 115 [.agg (E_.pc s), .str name] (.tup [.agg (E_.pc ((Di_ s name).1)), .int .i64 ((Di_ s name).2)]):=by
  refine fC Tryz.func115 tv93 Tryz.ntmps115 fun w N H hG=>?_;have e0:=Di_.eq_1 s name;generalize Di_ s name=z at e0 ⊢;refine gm tv93 11 [0,1] fun B2=>?_;refine cV e0 R0_ (Dp_ _ _) rfl fun r hr4 e6 w5=>?_;have hA6:=at_b s name
  (try rw[<- hr4] at hA6)
  refine gx tv93 10 ?_;refine cD e6 (fun p9 e10=>?_) (fun p12 e13=>?_)
  · refine gm tv93 9 [] fun _=>?_;subst e10;exact qr2
  refine gx tv93 3 ?_;refine aN [2,3,4,5,6,7] 13 mixd ?_;refine gX tv93 [0,1,2] 10 ?_;refine vq 3 (lshi tv93 (r).toNat rfl rfl rfl rfl rfl (fun _=>rfl) (by omega) (by omega)) rfl (by kernel_rfl) rfl fun w14=>?_;refine gXy tv93 [4,5,6,7] 5 ?_;refine vq 8 (lslo tv93 ((r+1)).toNat rfl rfl rfl rfl rfl (fun _=>rfl) (by omega) (by omega)) rfl (by kernel_rfl) rfl fun w15=>?_;refine vE 9 rfl (bsl 2 (slc RowR.pc) [(s.rows.take (r).toNat),(s.rows.drop ((r+1)).toNat)] tv93 rfl rfl rfl rfl rfl (fun _=>rfl) rfl (by decide) (by decide) rfl fun u16=>?_);refine vE 10 rfl (So_ 2 rfl (Ym_ (eC (S1_ _) rfl fun w17=>?_)));have hfl17:([(s.rows.take (r).toNat),(s.rows.drop ((r+1)).toNat)].flatten).length=(s.rows.take (r).toNat).length+(s.rows.drop ((r+1)).toNat).length:=by simp only[List.flatten_cons,List.flatten_nil,List.length_append,List.length_nil,List.length_cons,Nat.add_zero,Nat.zero_add]
  refine gX tv93 [11] 1 ?_;refine vT 12 rfl (sO tv93 ?_);refine vD ?_;refine gm tv93 9 [] fun _=>?_;subst e13;exact qr2
theorem Eu_ (s:E_) (name:Bs):Fn Tryz.prog gb 120 [.agg (E_.pc s), .str name] (.tup [.agg (QueueR.pc ((Ao_ s name).1)), .bool ((Ao_ s name).2)]):=by
  refine fC Tryz.func120 tv93 Tryz.ntmps120 fun w N H hG=>?_;have e0:=Ao_.eq_1 s name;generalize Ao_ s name=z at e0 ⊢;refine gm tv93 11 [0,1] fun B2=>?_;refine cV e0 R0_ (Dp_ _ _) rfl fun r hr4 e6 w5=>?_;have hA6:=at_b s name
  (try rw[<- hr4] at hA6)
  refine gx tv93 10 ?_;refine cD e6 (fun p9 e10=>?_) (fun p12 e13=>?_)
  · refine gm tv93 9 [] fun _=>?_;subst e10;exact qr2
  have hc14:=getG (xs:=s.rows) (k:=(r).toNat) (by omega);refine gx tv93 7 ?_;refine q1 (qidx tv93 (r).toNat rfl rfl (by omega) hc14 rfl rfl rfl rfl) rfl fun w15=>?_;refine gm tv93 7 [] fun _=>?_;subst e13;exact qr2
theorem G1_ (s:E_) (hs:s.rows.length<=1000:=by first|omega|(simp;omega)|decide +kernel):Fn Tryz.prog gb 89 [.agg (E_.pc s)] (.sl QueueR.pc (Aq_ s)):=by
  refine fC Tryz.func89 tv93 Tryz.ntmps89 fun w N H hG=>?_;have e0:=Aq_.eq_1 s;refine gm tv93 21 [0] fun B2=>?_;refine sw_own (t:=3) (k:=4) (e:=66) 1 QueueR.pc rfl rfl ?_;refine loop (ι:=Nat×(List QueueR)×Value) [2,7,8] [0] (fun ⟨k,out,u_out⟩=>[(9, .int .i64 (k:Int)),(3, .osl 1)]) (fun ⟨k,out,u_out⟩=>[(1, .arr u_out 4 66 QueueR.pc out)]) (fun ⟨k,out,u_out⟩=>k<=s.rows.length/\Aq_ s=Cw_ (s.rows.drop k) out/\out.length<=k) (fun ⟨k,out,u_out⟩=>s.rows.length-k) ⟨0,[],(.slice none 0 0)⟩ ⟨rfl,rfl,trivial⟩ ⟨rfl,trivial⟩ ?_ ?_
  · exact⟨Nat.zero_le _,e0,(by first|omega|(simp;done)|(simp;omega))⟩
  rintro⟨k,out,u_out⟩ ⟨hp3_1,hp3_2,hp3_3⟩;refine gx tv93 6 ?_;refine cn rfl (fun p5=>?_) fun p13=>?_
  · have e6:=B0_ (f:=fun zz=>Cw_ zz out) hp3_2 (Fz_ (by omega)) (Cw_.eq_2 _ _ _);have hc7:=getG (xs:=s.rows) (k:=k) (by omega);refine gx tv93 6 ?_;refine q1 (qidx tv93 k rfl rfl rfl hc7 rfl rfl rfl rfl) rfl fun w8=>?_;refine gm tv93 9 [2] fun B10=>?_;refine ef (bsl 3 QueueR.pc [(gt s.rows k).q] tv93 rfl rfl rfl rfl rfl (fun _=>rfl) rfl (by decide) (by decide) rfl fun u11=>?_);refine ef (app tv93 [(gt s.rows k).q] rfl rfl rfl rfl rfl rfl rfl rfl rfl (src_o rfl rfl) (by first|omega|(simp;omega)) rfl fun u12=>?_);refine gy tv93 8 ?_;refine next ⟨(k+1),(out++[(gt s.rows k).q]),(u12)⟩ rfl rfl ⟨rfl,rfl,trivial⟩ ⟨rfl,trivial⟩ ?_ ?_
    · (try simp only[]);omega
    exact⟨by (try simp only[]);omega,e6,(by (try simp only[List.length_append,List.length_cons,List.length_nil]);omega)⟩
  have e14:=B0_ (f:=fun zz=>Cw_ zz out) hp3_2 (F0_ (by omega)) (Cw_.eq_1 _);refine gx tv93 11 ?_;refine givec 1 rfl ?_;refine gx tv93 1 ?_;exact rt1 rfl rfl (P_ (fun r:(List QueueR)=> .sl QueueR.pc r) e14 (ple rfl))
theorem D9_ (s:E_) (k:Int) (l:LineR) (hs:s.rows.length<=1000:=by first|omega|(simp;omega)|decide +kernel) (hk:0<=k/\k<s.rows.length:=by omega):Fn Tryz.prog gb 127 [.agg (E_.pc s), .int .i64 k, .agg (LineR.pc l)] (.agg (E_.pc (Ac_ s k l))):=by
  refine fC Tryz.func127 tv93 Tryz.ntmps127 fun w N H hG=>?_;have e0:=Ac_.eq_1 s k l;refine gm tv93 11 [0,1,2] fun B2=>?_;refine ef (ecallo 3 (oclone_row _) rfl rfl fun u6 w5=>?_);refine gx tv93 1 ?_;refine so_osl (t:=9) 3 rfl rfl ?_;refine ef (Im_ tv93 rfl rfl rfl rfl rfl rfl rfl rfl rfl ?_);refine gx tv93 8 ?_;refine q1 (eidx (k).toNat tv93 rfl rfl rfl rfl rfl rfl rfl (by omega) (by omega)) rfl fun w7=>?_;refine q1 (efld rfl fl242_1) rfl fun w8=>?_;have hc9:=getG (xs:=s.rows) (k:=(k).toNat) (by omega);refine ef (estA (i:=3) ((k).toNat) 4 (⟨(gt s.rows ((k).toNat)).q,l⟩:RowR) tv93 rfl rfl rfl rfl rfl rfl (by omega) rfl (Nat.le_of_ble_eq_true rfl) (fun _ h=>by obtain rfl :=Option.some.inj (h.symm.trans hc9);rfl) ?_);have hset9:(s.rows.set ((k).toNat) (⟨(gt s.rows ((k).toNat)).q,l⟩:RowR)).length=s.rows.length:=List.length_set ..;refine gx tv93 4 ?_;refine give 3 rfl ?_;refine gm tv93 5 [] fun _=>?_;exact rt1 rfl rfl (P_ (fun r:E_=> .agg (E_.pc r)) e0 (ple rfl))
theorem J6_ (s:E_) (hs:StkOk s:=by first|assumption|exact StOk.stk (by assumption)):Fn Tryz.prog gb 59 [.agg (E_.pc s)] (.int .i64 (B9_ s)):=by
  refine fC Tryz.func59 tv93 Tryz.ntmps59 fun w N H hG=>?_;have hs0:=hs;obtain⟨⟨hs1,hs2,hs3⟩,hs4,hs5,hs6⟩:=hs0;have e0:=B9_.eq_1 s;refine gm tv93 21 [0] fun B2=>?_;refine loop (ι:=Nat×Int) [1,2,9,10] [0] (fun ⟨k,n⟩=>[(11, .int .i64 (k:Int)),(3, .int .i64 n)]) (fun ⟨k,n⟩=>[]) (fun ⟨k,n⟩=>k<=s.rows.length/\B9_ s=Be_ s (s.rows.drop k) n/\0<=n/\n<=200000*k) (fun ⟨k,n⟩=>s.rows.length-k) ⟨0,0⟩ ⟨rfl,rfl,trivial⟩ trivial ?_ ?_
  · exact⟨Nat.zero_le _,e0,(by first|omega|(simp;done)|(simp;omega))⟩
  rintro⟨k,n⟩ ⟨hp3_1,hp3_2,hp3_3⟩;refine gx tv93 6 ?_;refine cn rfl (fun p5=>?_) fun p15=>?_
  · have e6:=B0_ (f:=fun zz=>Be_ s zz n) hp3_2 (Fz_ (by omega)) (Be_.eq_2 _ _ _ _);have hc7:=getG (xs:=s.rows) (k:=k) (by omega);have hz_hc7:=RwsOk.at hs.1 hc7;have hy_hc7:=hz_hc7.1;refine gx tv93 6 ?_;refine q1 (qidx tv93 k rfl rfl rfl hc7 rfl rfl rfl rfl) rfl fun w8=>?_;refine gm tv93 9 [1] fun B10=>?_;refine cV e6 R0_ (O9_ _) rfl fun r hr11 e13 w12=>?_;have hA13:=lsize_r ((gt s.rows k).l)
    (try rw[<- hr11] at hA13)
    refine gy tv93 9 ?_;refine next ⟨(k+1),(n+r)⟩ rfl rfl ⟨rfl,rfl,trivial⟩ trivial ?_ ?_
    · (try simp only[]);omega
    exact⟨by (try simp only[]);omega,e13,by (try simp only[]);omega⟩
  have e16:=B0_ (f:=fun zz=>Be_ s zz n) hp3_2 (F0_ (by omega)) (Be_.eq_1 _ _);refine gx tv93 14 ?_;refine loop (ι:=Nat×Int×Nat) [2,22] [0] (fun ⟨f,n1,v⟩=>[(3, .int .i64 n1),(23, .int .i64 (v:Int))]) (fun ⟨f,n1,v⟩=>[]) (fun ⟨f,n1,v⟩=>16-v<f/\B9_ s=Dl_ s f n1 v/\0<=n1/\n1<=1600000+48000*v) (fun ⟨f,n1,v⟩=>f) ⟨(16-0+1),n,0⟩ ⟨rfl,rfl,trivial⟩ trivial ?_ ?_
  · exact⟨Nat.lt_succ_self _,e16,by (try simp only[]);omega⟩
  rintro⟨f,n1,v⟩ ⟨hp17_1,hp17_2,hp17_3⟩;obtain⟨f1,rfl⟩:∃ q,f=q+1:=⟨f-1,by omega⟩;have e_f1:=hp17_2.trans (Dl_.eq_2 _ _ _ _);refine gx tv93 6 ?_;refine cD e_f1 (fun p19 e20=>?_) (fun p29 e30=>?_)
  · refine gx tv93 6 ?_;refine q1 (qaivA (fun q=>[.int .u64 ((A16.get s.rises q).total), .sl Mail.pc ((A16.get s.rises q).kept)]) v tv93 rfl rfl Tryz.underlying48 rfl rfl rfl rfl (by omega) (bw16 rfl rfl rfl rfl rfl rfl rfl rfl rfl rfl rfl rfl rfl rfl rfl rfl)) rfl fun w21=>?_;refine gm tv93 7 [1] fun B23=>?_;refine cV e20 R0_ (Il_ _) rfl fun r1 hr24 e26 w25=>?_;have hA26:=Vc_ (A16.get s.rises v)
    (try rw[<- hr24] at hA26)
    (try have hB27:=(show RiOk (A16.get s.rises v) by first|assumption|exact hs4 _ (by omega)).1)
    refine gy tv93 9 ?_;refine next ⟨f1,(n1+r1),(v+1)⟩ rfl rfl ⟨rfl,rfl,trivial⟩ trivial ?_ ?_
    · (try simp only[]);omega
    exact⟨by (try simp only[]);omega,e26,by (try simp only[]);omega⟩
  refine gx tv93 12 ?_;exact rt1 rfl rfl (P_ (fun r:Int=> .int .i64 r) e30 (ple rfl))
theorem Nw_ (s:E_):Fn Tryz.prog gb 70 [.agg (E_.pc s)] (.int .u64 (Ja_ s)):=by
  refine fC Tryz.func70 tv93 Tryz.ntmps70 fun w N H hG=>?_;have e0:=Ja_.eq_1 s;refine gm tv93 14 [0] fun B2=>?_;exact rt1 rfl rfl (P_ (fun r:Int=> .int .u64 r) e0 (ple rfl))
def tbv93b:Tb:=[(3,ty3),(50,ty50)]
theorem Ox_:tbB Tryz.prog tbv93b=true:=by kernel_rfl
theorem J5_ (s:E_) (hs:StkOk s:=by first|assumption|exact StOk.stk (by assumption)):Fn Tryz.prog gb 136 [.agg (E_.pc s)] (.int .i64 (Fk_ s)):=by
  refine fC Tryz.func136 Ox_ Tryz.ntmps136 fun w N H hG=>?_;have hs0:=hs;obtain⟨⟨hs1,hs2,hs3⟩,hs4,hs5,hs6⟩:=hs0;have e0:=Fk_.eq_1 s;refine gm Ox_ 7 [0] fun B2=>?_;refine aN [1,2,3,4,5,6] 6 mixd ?_;refine gX Ox_ [0,1,2] 3 ?_;refine vC 3 rfl (J6_ _) rfl fun w3=>?_;have hB3:=Yy_ s (by assumption);refine gXy Ox_ [4,5] 0 ?_;refine vD ?_;refine gx Ox_ 2 ?_;exact rt1 rfl rfl (P_ (fun r:Int=> .int .i64 r) e0 (ple rfl))
abbrev R4_:(Mail×Bool)->PV:=fun r=> .tup [.agg (Mail.pc r.1), .bool r.2]
abbrev R5_:(LineR×ItemR×Int)->PV:=fun r=> .tup [.agg (LineR.pc r.1), .agg (ItemR.pc r.2.1), .int .i64 r.2.2]
abbrev R6_:E_->PV:=fun r=> .agg (E_.pc r)
abbrev R7_:(LineR×ItemR×Bool)->PV:=fun r=> .tup [.agg (LineR.pc r.1), .agg (ItemR.pc r.2.1), .bool r.2.2]
def tbv94:Tb:=[(3,ty3),(9,ty9),(22,ty22),(44,ty44),(47,ty47),(50,ty50),(66,ty66),(71,ty71),(75,ty75),(240,Sl_),(242,ty242)]
theorem tv94:tbB Tryz.prog tbv94=true:=by kernel_rfl
theorem Kn_ (s:E_) (name:Bs) (m:Mail) (hs:StkOk s:=by first|assumption|exact StOk.stk (by assumption)) (hh:m.head.length<=1000000:=by omega):Fn Tryz.prog gb 201 [.agg (E_.pc s), .str name, .agg (Mail.pc m)] (.tup [.agg (E_.pc ((Az_ s name m).1)), .int .u64 ((Az_ s name m).2.1), .agg (Mail.pc ((Az_ s name m).2.2.1)), .int .i64 ((Az_ s name m).2.2.2)]):=by
  refine fC Tryz.func201 tv94 Tryz.ntmps201 fun w N H hG=>?_;have s_next_r:0<=s.next /\ s.next <= 18446744073709551615:=w.1.1;have s_bytes_r:-9223372036854775808<=s.bytes/\s.bytes<=9223372036854775807:=w.1.2.1;have s_rows_l:s.rows.length<=140737488355328:=w.1.2.2.1.1;have name_l:name.length<=9223372036854775807:=w.2.1;have m_id_r:0<=m.id/\m.id<=18446744073709551615:=w.2.2.1.1;have m_shop_l:m.shop.length<=9223372036854775807:=w.2.2.1.2.1;have m_key_l:m.key.length<=9223372036854775807:=w.2.2.1.2.2.1;have m_head_l:m.head.length<=140737488355328:=w.2.2.1.2.2.2.1.1;have m_body_l:m.body.length<=9223372036854775807:=w.2.2.1.2.2.2.2.1;have m_due_r:0<=m.due/\m.due<=18446744073709551615:=w.2.2.1.2.2.2.2.2.1;have m_hops_r:0<=m.hops/\m.hops<=255:=w.2.2.1.2.2.2.2.2.2.1;have hs0:=hs;obtain⟨⟨hs1,hs2,hs3⟩,hs4,hs5,hs6⟩:=hs0;have e0:=Az_.eq_1 s name m;generalize Az_ s name m=z at e0 ⊢;refine gm tv94 14 [0,1,2,3] fun B2=>?_;refine cV e0 R0_ (Dp_ _ _) rfl fun r hr6 e8 w7=>?_;have hA8:=at_b s name
  (try rw[<- hr6] at hA8)
  refine gx tv94 10 ?_;refine cD e8 (fun p11 e12=>?_) (fun p14 e15=>?_)
  · refine gm tv94 12 [] fun _=>?_;subst e12;exact qr4
  refine gx tv94 6 ?_;refine call (Ii_ _) rfl rfl fun w16=>?_;have :=L8_ m;have hmo16:=fun h=>G6_ (m:=m) h;refine gx tv94 9 ?_;refine cN e15 (fun p19 e20=>?_) (fun p23 e24=>?_)
  · refine gm tv94 13 [] fun _=>?_;subst e20;exact qr4
  refine gx tv94 10 ?_;refine cD e24 (fun p26 e27=>?_) (fun p29 e30=>?_)
  · refine gm tv94 12 [] fun _=>?_;subst e27;exact qr4
  have hc31:=getG (xs:=s.rows) (k:=(r).toNat) (by omega);have hz_hc31:=RwsOk.at hs.1 hc31;have hy_hc31:=hz_hc31.1;refine gx tv94 7 ?_;refine q1 (qidx tv94 (r).toNat rfl rfl (by omega) hc31 rfl rfl rfl rfl) rfl fun w32=>?_;refine gm tv94 12 [4,5] fun B34=>?_;obtain⟨o,e_o,q_o⟩:=lp2_split e30;refine G4_ (ι:=LineR×Mail) [3,5,6,8,10,12,13] [0,1,2,3] (fun ⟨x,x1⟩=>[]) (fun ⟨x,x1⟩=>[(4, .box (B34 0) 240 (LineR.pc x)),(5, .box (B34 1) 71 (Mail.pc x1))]) (fun ⟨x,x1⟩=>o = .fin (x,x1)/\LnOk x) ?_ ?_
  · refine gx tv94 1 ?_;refine aN [6,7,8,9,10,11] 11 mixd ?_;refine gX tv94 [0] 10 ?_;refine vC 1 rfl (I7_ _) rfl fun w36=>?_;refine gX tv94 [2,3,4,5] 5 ?_;refine vq 6 (qidx tv94 (r).toNat rfl rfl (by omega) hc31 rfl rfl rfl rfl) rfl (by kernel_rfl) rfl fun w37=>?_;refine gX tv94 [7,8,9,10] 0 ?_;refine vD ?_;refine gx tv94 1 ?_;refine cD e_o (fun p39 e40=>?_) (fun p58 e59=>?_)
    · refine gx tv94 3 ?_;refine cV e40 R4_ (Ke_ _) rfl fun r1 hr41 e43 w42=>?_;refine gm tv94 15 [6] fun B45=>?_;refine cE e43 (fun h46 e48=>?_) (fun h46 e52=>?_)
      · have h47:=Dk_ h46;refine gm tv94 14 [] fun _=>?_;have e50:=lp2_ret q_o e48;subst e50;exact qr4
      have h51:=Ct_ h46;refine gx tv94 7 ?_;refine cV e52 R5_ (Jv_ _ _) rfl fun r2 hr53 e55 w54=>?_
      (try have hA55:=Mx_ (l:=((gt s.rows ((r).toNat)).l)) (id:=r1.1.id) (by assumption);(try rw[<- hr53] at hA55);obtain⟨hA55_0,hA55_1⟩:=hA55)
      refine gm tv94 11 [] fun _=>?_;refine nX ⟨r2.1,r1.1⟩ ?_ trivial ⟨rfl,rfl,trivial⟩;exact⟨e55,by assumption⟩
    refine gx tv94 1 ?_;refine nX ⟨(gt s.rows ((r).toNat)).l,(⟨0,[],[],[],[],0,0⟩:Mail)⟩ ?_ trivial ⟨rfl,rfl,trivial⟩;exact⟨e59,by assumption⟩
  rintro⟨x,x1⟩ ⟨hp60,hp60_3⟩;have e61:=lp2_fin q_o hp60;refine gm tv94 11 [] fun _=>?_;refine aN [6,7,8,9,10,11] 8 mixd ?_;refine gX tv94 [0] 7 ?_;refine vC 1 rfl (Kf_ (⟨s.next,m.shop,m.key,m.head,m.body,m.due,m.hops⟩:Mail)) rfl fun w63=>?_;have hB63:=To_ (⟨s.next,m.shop,m.key,m.head,m.body,m.due,m.hops⟩:Mail);refine gX tv94 [2] 5 ?_;refine vC 3 rfl (J5_ _) rfl fun w65=>?_;have hB65:=kroom_r s (by assumption);refine gX tv94 [4] 3 ?_;refine vC 5 rfl (Kf_ _) rfl fun w67=>?_;have hB67:=To_ x1;refine gXy tv94 [6,7] 0 ?_;refine vD ?_;refine gx tv94 1 ?_;refine cD e61 (fun p70 e71=>?_) (fun p73 e74=>?_)
  · refine gm tv94 12 [] fun _=>?_;subst e71;exact qr4
  refine gx tv94 6 ?_;refine cV e74 R2_ (I6_ _ (⟨s.next,m.shop,m.key,m.head,m.body,m.due,m.hops⟩:Mail)) rfl fun r3 hr75 e77 w76=>?_;have hA77:=Uw_ (l:=x) (m:=(⟨s.next,m.shop,m.key,m.head,m.body,m.due,m.hops⟩:Mail)) (by assumption) (by (try simp only[]);omega)
  (try rw[<- hr75] at hA77)
  refine gm tv94 14 [] fun _=>?_;refine cN e77 (fun p82 e83=>?_) (fun p86 e87=>?_)
  · refine gm tv94 13 [] fun _=>?_;subst e83;exact qr4
  refine gx tv94 7 ?_;refine cV e87 R6_ (D9_ _ _ _) rfl fun r4 hr88 e90 w89=>?_;have hA90:=H1_ s r r3.1
  (try rw[<- hr88] at hA90)
  have :=F3_ (r4.next + 1);refine gm tv94 13 [] fun _=>?_;refine aN [2,3,6,7,8,9,10,11] 8 mixd ?_;refine gX tv94 [0,1,2,3] 4 ?_;refine vE 4 rfl (sA tv94 ?_);refine gX tv94 [5] 2 ?_;refine vT 6 rfl (sA tv94 ?_);refine gX tv94 [7] 0 ?_;refine vD ?_;refine gx tv94 2 ?_;subst e90;exact qr4
theorem Nv_ (s:E_) (name:Bs) (hs:StkOk s:=by first|assumption|exact StOk.stk (by assumption)):Fn Tryz.prog gb 121 [.agg (E_.pc s), .str name] (.tup [.agg (E_.pc ((B8_ s name).1)), .agg (ItemR.pc ((B8_ s name).2.1)), .bool ((B8_ s name).2.2)]):=by
  refine fC Tryz.func121 tv94 Tryz.ntmps121 fun w N H hG=>?_;have hs0:=hs;obtain⟨⟨hs1,hs2,hs3⟩,hs4,hs5,hs6⟩:=hs0;have e0:=B8_.eq_1 s name;generalize B8_ s name=z at e0 ⊢;refine gm tv94 12 [0,1,2] fun B2=>?_;refine cV e0 R0_ (Dp_ _ _) rfl fun r hr5 e7 w6=>?_;have hA7:=at_b s name
  (try rw[<- hr5] at hA7)
  refine gx tv94 10 ?_;refine cD e7 (fun p10 e11=>?_) (fun p13 e14=>?_)
  · refine gm tv94 11 [] fun _=>?_;subst e11;exact qr3
  have hc15:=getG (xs:=s.rows) (k:=(r).toNat) (by omega);have hz_hc15:=RwsOk.at hs.1 hc15;have hy_hc15:=hz_hc15.1;refine gx tv94 7 ?_;refine q1 (qidx tv94 (r).toNat rfl rfl (by omega) hc15 rfl rfl rfl rfl) rfl fun w16=>?_;refine gx tv94 2 ?_;refine cV e14 R7_ (Ig_ _) rfl fun r1 hr17 e19 w18=>?_
  (try have hA19:=Qa_ (l:=((gt s.rows ((r).toNat)).l)) (by assumption);(try rw[<- hr17] at hA19);obtain⟨hA19_0,hA19_1⟩:=hA19)
  refine gm tv94 12 [3,4] fun B22=>?_;refine aN [1,2,5,6,7,8,9,10] 9 mixd ?_;refine gX tv94 [0,1,2,4,5] 4 ?_;refine vE 3 rfl (eC (D9_ _ _ _) rfl ?_);have hB24:=H1_ s r r1.1;generalize hr26:Ac_ s r r1.1=r2;intro w24;have e27:=e19.trans (Co_ hr26.symm);have hr26:=hr26.symm;have hA27:=H1_ s r r1.1
  (try rw[<- hr26] at hA27)
  refine vE 6 rfl (sA tv94 ?_);refine vtp 7 rfl (by kernel_rfl) (by kernel_rfl) (sA tv94 ?_);refine gX tv94 [8] 0 ?_;refine vD ?_;refine gx tv94 2 ?_;subst e27;exact qr3
theorem Ns_ (s:E_) (name:Bs) (id:Int) (hs:StkOk s:=by first|assumption|exact StOk.stk (by assumption)):Fn Tryz.prog gb 122 [.agg (E_.pc s), .str name, .int .u64 id] (.tup [.agg (E_.pc ((Dh_ s name id).1)), .int .i64 ((Dh_ s name id).2)]):=by
  refine fC Tryz.func122 tv94 Tryz.ntmps122 fun w N H hG=>?_;have hs0:=hs;obtain⟨⟨hs1,hs2,hs3⟩,hs4,hs5,hs6⟩:=hs0;have e0:=Dh_.eq_1 s name id;generalize Dh_ s name id=z at e0 ⊢;refine gm tv94 11 [0,1] fun B2=>?_;refine cV e0 R0_ (Dp_ _ _) rfl fun r hr4 e6 w5=>?_;have hA6:=at_b s name
  (try rw[<- hr4] at hA6)
  refine gx tv94 10 ?_;refine cD e6 (fun p9 e10=>?_) (fun p12 e13=>?_)
  · refine gm tv94 9 [] fun _=>?_;subst e10;exact qr2
  have hc14:=getG (xs:=s.rows) (k:=(r).toNat) (by omega);have hz_hc14:=RwsOk.at hs.1 hc14;have hy_hc14:=hz_hc14.1;refine gx tv94 7 ?_;refine q1 (qidx tv94 (r).toNat rfl rfl (by omega) hc14 rfl rfl rfl rfl) rfl fun w15=>?_;refine gx tv94 3 ?_;refine cV e13 R2_ (Ky_ _ _) rfl fun r1 hr16 e18 w17=>?_;have hA18:=Ux_ (l:=((gt s.rows ((r).toNat)).l)) (id:=id) (by assumption)
  (try rw[<- hr16] at hA18)
  refine gm tv94 13 [2] fun B21=>?_;refine cV e18 R6_ (D9_ _ _ _) rfl fun r2 hr22 e24 w23=>?_;have hA24:=H1_ s r r1.1
  (try rw[<- hr22] at hA24)
  refine gm tv94 6 [] fun _=>?_;subst e24;exact qr2
theorem I3_ (s:E_) (name:Bs) (id:Int) (hs:StkOk s:=by first|assumption|exact StOk.stk (by assumption)):Fn Tryz.prog gb 123 [.agg (E_.pc s), .str name, .int .u64 id] (.tup [.agg (E_.pc ((Ad_ s name id).1)), .agg (ItemR.pc ((Ad_ s name id).2.1)), .int .i64 ((Ad_ s name id).2.2)]):=by
  refine fC Tryz.func123 tv94 Tryz.ntmps123 fun w N H hG=>?_;have hs0:=hs;obtain⟨⟨hs1,hs2,hs3⟩,hs4,hs5,hs6⟩:=hs0;have e0:=Ad_.eq_1 s name id;generalize Ad_ s name id=z at e0 ⊢;refine gm tv94 12 [0,1,2] fun B2=>?_;refine cV e0 R0_ (Dp_ _ _) rfl fun r hr5 e7 w6=>?_;have hA7:=at_b s name
  (try rw[<- hr5] at hA7)
  refine gx tv94 10 ?_;refine cD e7 (fun p10 e11=>?_) (fun p13 e14=>?_)
  · refine gm tv94 11 [] fun _=>?_;subst e11;exact qr3
  have hc15:=getG (xs:=s.rows) (k:=(r).toNat) (by omega);have hz_hc15:=RwsOk.at hs.1 hc15;have hy_hc15:=hz_hc15.1;refine gx tv94 7 ?_;refine q1 (qidx tv94 (r).toNat rfl rfl (by omega) hc15 rfl rfl rfl rfl) rfl fun w16=>?_;refine gx tv94 3 ?_;refine cV e14 R5_ (Jv_ _ _) rfl fun r1 hr17 e19 w18=>?_
  (try have hA19:=Mx_ (l:=((gt s.rows ((r).toNat)).l)) (id:=id) (by assumption);(try rw[<- hr17] at hA19);obtain⟨hA19_0,hA19_1⟩:=hA19)
  refine gm tv94 12 [3,4] fun B22=>?_;refine aN [1,2,5,6,7,8,9,10] 9 mixd ?_;refine gX tv94 [0,1,2,4,5] 4 ?_;refine vE 3 rfl (eC (D9_ _ _ _) rfl ?_);have hB24:=H1_ s r r1.1;generalize hr26:Ac_ s r r1.1=r2;intro w24;have e27:=e19.trans (Co_ hr26.symm);have hr26:=hr26.symm;have hA27:=H1_ s r r1.1
  (try rw[<- hr26] at hA27)
  refine vE 6 rfl (sA tv94 ?_);refine vtp 7 rfl (by kernel_rfl) (by kernel_rfl) (sA tv94 ?_);refine gX tv94 [8] 0 ?_;refine vD ?_;refine gx tv94 2 ?_;subst e27;exact qr3
theorem Nf_ (s:E_) (place:Int) (m:Mail) (hs:StkOk s:=by first|assumption|exact StOk.stk (by assumption)) (hh:m.head.length<=1000000:=by omega):Fn Tryz.prog gb 203 [.agg (E_.pc s), .int .i64 place, .agg (Mail.pc m)] (.tup [.agg (E_.pc ((Bm_ s place m).1)), .int .i64 ((Bm_ s place m).2)]):=by
  refine fC Tryz.func203 tv94 Tryz.ntmps203 fun w N H hG=>?_;have hs0:=hs;obtain⟨⟨hs1,hs2,hs3⟩,hs4,hs5,hs6⟩:=hs0;have e0:=Bm_.eq_1 s place m;generalize Bm_ s place m=z at e0 ⊢;refine gmy tv94 19 [0,1,2] fun B2=>?_;refine cE e0 (fun h5 e6=>?_) (fun h5 e12=>?_)
  · refine gm tv94 9 [] fun _=>?_;subst e6;exact qr2
  have h8:=orl h5;have p9:=df h8;have h10:=orr h5;have p11:=df h10;refine gx tv94 3 ?_;refine G4_ (ι:=Nat) [1,3,6,7] [0,1,2] (fun b13=>[(8, .own 3 b13 0),(9, .int .i64 ((Bp_ (A16.get s.rises ((place).toNat)) m).2))]) (fun b13=>[(3, .box b13 47 [.int .u64 (((Bp_ (A16.get s.rises ((place).toNat)) m).1).total), .sl Mail.pc (((Bp_ (A16.get s.rises ((place).toNat)) m).1).kept)])]) (fun b13=>PV.wf (.tup [.agg (RiseR.pc ((Bp_ (A16.get s.rises ((place).toNat)) m).1)), .int .i64 ((Bp_ (A16.get s.rises ((place).toNat)) m).2)])) ?_ ?_
  · refine aN [3,4,5,6,7,8,9,10] 12 mixd ?_;refine gX tv94 [0,1] 10 ?_;refine vq 2 (qaia (place).toNat rfl rfl Tryz.underlying48 sz47 (by omega) (by omega)) rfl (by kernel_rfl) rfl fun w14=>?_;refine gX tv94 [4] 8 ?_;refine veL 3 [9] (by kernel_rfl) ⟨⟨_,rfl,?_⟩,⟨_,rfl,?_⟩,trivial⟩
    · refine ej rfl (Mc_ (sz:=2) (len:=16) (fun q=>[.int .u64 ((A16.get s.rises q).total), .sl Mail.pc ((A16.get s.rises q).kept)]) ((place).toNat) 3 2 0 tv94 rfl rfl rfl rfl rfl rfl rfl (by omega) (bw16 rfl rfl rfl rfl rfl rfl rfl rfl rfl rfl rfl rfl rfl rfl rfl rfl) (bw16 rfl rfl rfl rfl rfl rfl rfl rfl rfl rfl rfl rfl rfl rfl rfl rfl) rfl fun w15=>?_);refine veL 5 [9] (by kernel_rfl) ⟨⟨_,rfl,?_⟩,⟨_,rfl,?_⟩,trivial⟩
      · refine ej rfl (eC (Hn_ (A16.get s.rises ((place).toNat)) m (hx:=by exact hs4 _ (by omega))) rfl fun w16=>?_);refine gX tv94 [6,7,8] 3 ?_;refine vE 9 rfl (aL tv94 3 fun b17=>?_);refine vE 10 rfl (sA tv94 ?_);refine gX tv94 [11] 0 ?_;refine vD ?_;refine nX (b17) ?_ ⟨rfl,rfl,trivial⟩ ⟨rfl,trivial⟩;exact w16
      refine ej rfl (aL tv94 3 fun b18=>?_);refine vE 5 rfl (eC (Hn_ (A16.get s.rises ((place).toNat)) m (hx:=by exact hs4 _ (by omega))) rfl fun w19=>?_);refine gX tv94 [6,7,8] 2 ?_;refine vE 10 rfl (sA tv94 ?_);refine gX tv94 [11] 0 ?_;refine vD ?_;refine nX (b18) ?_ ⟨rfl,rfl,trivial⟩ ⟨rfl,trivial⟩;exact w19
    refine ej rfl (aL tv94 3 fun b20=>?_);refine vE 3 rfl (Mc_ (sz:=2) (len:=16) (fun q=>[.int .u64 ((A16.get s.rises q).total), .sl Mail.pc ((A16.get s.rises q).kept)]) ((place).toNat) 3 2 0 tv94 rfl rfl rfl rfl rfl rfl rfl (by omega) (bw16 rfl rfl rfl rfl rfl rfl rfl rfl rfl rfl rfl rfl rfl rfl rfl rfl) (bw16 rfl rfl rfl rfl rfl rfl rfl rfl rfl rfl rfl rfl rfl rfl rfl rfl) rfl fun w21=>?_);refine vE 5 rfl (eC (Hn_ (A16.get s.rises ((place).toNat)) m (hx:=by exact hs4 _ (by omega))) rfl fun w22=>?_);refine gX tv94 [6,7,8] 2 ?_;refine vE 10 rfl (sA tv94 ?_);refine gX tv94 [11] 0 ?_;refine vD ?_;refine nX (b20) ?_ ⟨rfl,rfl,trivial⟩ ⟨rfl,trivial⟩;exact w22
  generalize hr23:Bp_ (A16.get s.rises ((place).toNat)) m=r;rintro b13 w24;have e25:=e12.trans (Co_ hr23.symm);have hr23:=hr23.symm
  (try have hA25:=Zi_ (x:=(A16.get s.rises ((place).toNat))) (m:=m) (by first|assumption|exact hs4 _ (by omega));(try rw[<- hr23] at hA25))
  refine gx tv94 10 ?_;refine cN e25 (fun p29 e30=>?_) (fun p33 e34=>?_)
  · refine gm tv94 11 [] fun _=>?_;subst e30;exact qr2
  refine gx tv94 1 ?_;refine aN [4,5,6,7,8,9] 15 mixd ?_;refine gX tv94 [0] 14 ?_;refine vC 1 rfl (J6_ s) rfl fun w35=>?_;have hB35:=Yy_ s (by assumption);refine gX tv94 [2,3] 11 ?_;refine vq 4 (qaia (place).toNat rfl rfl Tryz.underlying48 sz47 (by omega) (by omega)) rfl (by kernel_rfl) rfl fun w37=>?_;refine gX tv94 [8,11,12] 7 ?_;refine vE 5 rfl (Mc_ (sz:=2) (len:=16) (fun q=>[.int .u64 ((A16.get s.rises q).total), .sl Mail.pc ((A16.get s.rises q).kept)]) ((place).toNat) 3 2 0 tv94 rfl rfl rfl rfl rfl rfl rfl (by omega) (bw16 rfl rfl rfl rfl rfl rfl rfl rfl rfl rfl rfl rfl rfl rfl rfl rfl) (bw16 rfl rfl rfl rfl rfl rfl rfl rfl rfl rfl rfl rfl rfl rfl rfl rfl) rfl fun w38=>?_);refine vC 6 rfl (Il_ (A16.get s.rises ((place).toNat))) rfl fun w39=>?_;have hB39:=Vc_ (A16.get s.rises ((place).toNat))
  (try have hB40:=(show RiOk (A16.get s.rises ((place).toNat)) by first|assumption|exact hs4 _ (by omega)).1)
  refine gXy tv94 [7] 4 ?_;refine vC 9 rfl (Il_ (r.1)) rfl fun w42=>?_;have hB42:=Vc_ (r.1)
  (try have hB43:=(show RiOk (r.1) by first|assumption|exact hs4 _ (by omega)).1)
  refine gXy tv94 [10,13,14] 0 ?_;refine vD ?_;refine gx tv94 1 ?_;refine cD e34 (fun p46 e47=>?_) (fun p49 e50=>?_)
  · refine gm tv94 10 [] fun _=>?_;subst e47;exact qr2
  refine gx tv94 8 ?_;refine q1 (qaia (place).toNat rfl rfl Tryz.underlying48 sz47 (by omega) (by omega)) rfl fun w51=>?_;refine ef (Qe_ (sz:=2) (len:=16) (fun q=>E_.pc (⟨s.next,s.bytes,s.rows,(A16.set s.rises (r.1) q)⟩:E_)) ((place).toNat) 3 2 0 tv94 rfl rfl rfl rfl rfl rfl rfl rfl rfl (by omega) (bw16 rfl rfl rfl rfl rfl rfl rfl rfl rfl rfl rfl rfl rfl rfl rfl rfl) rfl (bw16 rfl rfl rfl rfl rfl rfl rfl rfl rfl rfl rfl rfl rfl rfl rfl rfl) rfl ?_);refine gm tv94 10 [] fun _=>?_;subst e50;exact qr2
theorem Nu_ (s:E_) (tick:Int) (hs:StkOk s:=by first|assumption|exact StOk.stk (by assumption)):Fn Tryz.prog gb 124 [.agg (E_.pc s), .int .u64 tick] (.tup [.str ((Z_ s tick).1), .agg (Mail.pc ((Z_ s tick).2.1)), .bool ((Z_ s tick).2.2)]):=by
  refine fC Tryz.func124 tv94 Tryz.ntmps124 fun w N H hG=>?_;have hs0:=hs;obtain⟨⟨hs1,hs2,hs3⟩,hs4,hs5,hs6⟩:=hs0;have e0:=Z_.eq_1 s tick;generalize Z_ s tick=z at e0 ⊢;refine gm tv94 18 [0,1] fun B2=>?_;refine loop (ι:=Nat) [1,5,12,13] [0,1] (fun k=>[(14, .int .i64 (k:Int))]) (fun k=>[]) (fun k=>k<=s.rows.length/\z=As_ tick (s.rows.drop k)) (fun k=>s.rows.length-k) 0 ⟨rfl,trivial⟩ trivial ?_ ?_
  · exact⟨Nat.zero_le _,e0⟩
  rintro k ⟨hp4_1,hp4_2⟩;refine gx tv94 6 ?_;refine cn rfl (fun p6=>?_) fun p20=>?_
  · have e7:=B0_ (f:=fun zz=>As_ tick zz) hp4_2 (Fz_ (by omega)) (As_.eq_2 _ _ _);have hc8:=getG (xs:=s.rows) (k:=k) (by omega);have hz_hc8:=RwsOk.at hs.1 hc8;have hy_hc8:=hz_hc8.1;refine gx tv94 6 ?_;refine q1 (qidx tv94 k rfl rfl rfl hc8 rfl rfl rfl rfl) rfl fun w9=>?_;refine gm tv94 10 [2] fun B11=>?_;refine cV e7 R4_ (O8_ _ _) rfl fun r hr12 e14 w13=>?_;refine gm tv94 13 [3] fun B16=>?_;refine cE e14 (fun h17 e18=>?_) (fun h17 e19=>?_)
    · refine gx tv94 1 ?_;refine aN [1,4,5,6,7,8,9] 7 mixd ?_;refine gX tv94 [0,1,2,3,4] 2 ?_;refine vT 5 rfl (sA tv94 ?_);refine gX tv94 [6] 0 ?_;refine vD ?_;refine gx tv94 7 ?_;subst e18;exact qr3
    refine gy tv94 7 ?_;refine next (k+1) rfl rfl ⟨rfl,trivial⟩ trivial ?_ ?_
    · (try simp only[]);omega
    exact⟨by (try simp only[]);omega,e19⟩
  have e21:=B0_ (f:=fun zz=>As_ tick zz) hp4_2 (F0_ (by omega)) (As_.eq_1 _);refine gm tv94 14 [] fun _=>?_;subst e21;exact qr3
theorem Nx_ (s:E_) (hs:StkOk s:=by first|assumption|exact StOk.stk (by assumption)):Fn Tryz.prog gb 49 [.agg (E_.pc s)] (.agg (E_.pc (Er_ s))):=by
  refine fC Tryz.func49 tv94 Tryz.ntmps49 fun w N H hG=>?_;have hs0:=hs;obtain⟨⟨hs1,hs2,hs3⟩,hs4,hs5,hs6⟩:=hs0;have e0:=Er_.eq_1 s;refine gm tv94 16 [0,1] fun B2=>?_;refine loop (ι:=Nat×E_) [1,2,6,7] [1] (fun ⟨k,x⟩=>[(8, .int .i64 (k:Int))]) (fun ⟨k,x⟩=>[(0, .box (B2 0) 50 (E_.pc x))]) (fun ⟨k,x⟩=>k<=s.rows.length/\Er_ s=Br_ (s.rows.drop k) k x/\x.rows.length=s.rows.length) (fun ⟨k,x⟩=>s.rows.length-k) ⟨0,s⟩ ⟨rfl,trivial⟩ ⟨rfl,trivial⟩ ?_ ?_
  · exact⟨Nat.zero_le _,e0,rfl⟩
  rintro⟨k,x⟩ ⟨hp4_1,hp4_2,hp4_3⟩;refine gx tv94 6 ?_;refine cn rfl (fun p6=>?_) fun p21=>?_
  · have e7:=B0_ (f:=fun zz=>Br_ zz k x) hp4_2 (Fz_ (by omega)) (Br_.eq_2 _ _ _ _);have hc8:=getG (xs:=s.rows) (k:=k) (by omega);have hz_hc8:=RwsOk.at hs.1 hc8;have hy_hc8:=hz_hc8.1;refine gx tv94 7 ?_;refine q1 (qidx tv94 k rfl rfl rfl hc8 rfl rfl rfl rfl) rfl fun w9=>?_;refine gm tv94 6 [2] fun B11=>?_;refine aN [3,4,5,6,7,8] 7 mixd ?_;refine gX tv94 [0,1,2,3] 3 ?_;refine vE 4 rfl (eC (Pa_ _) rfl ?_);generalize hr13:Gj_ ((gt s.rows k).l)=r;intro w12;have e14:=e7.trans (Co_ hr13.symm);have hr13:=hr13.symm;have hA14:=lwake_ok (l:=((gt s.rows k).l)) (by assumption)
    (try rw[<- hr13] at hA14)
    refine vE 5 rfl (eC (D9_ _ _ _) rfl ?_);have hB16:=H1_ x (k:Int) r;generalize hr18:Ac_ x (k:Int) r=r1;intro w16;have e19:=e14.trans (Co_ hr18.symm);have hr18:=hr18.symm;have hA19:=H1_ x (k:Int) r
    (try rw[<- hr18] at hA19)
    refine vT 6 rfl (sA tv94 ?_);refine vD ?_;refine gy tv94 6 ?_;refine next ⟨(k+1),r1⟩ rfl rfl ⟨rfl,trivial⟩ ⟨rfl,trivial⟩ ?_ ?_
    · (try simp only[]);omega
    exact⟨by (try simp only[]);omega,e19,by (try simp only[]);omega⟩
  have e22:=B0_ (f:=fun zz=>Br_ zz k x) hp4_2 (F0_ (by omega)) (Br_.eq_1 _ _);refine gm tv94 12 [] fun _=>?_;exact rt1 rfl rfl (P_ (fun r:E_=> .agg (E_.pc r)) e22 (ple rfl))
end Go.SW.V
