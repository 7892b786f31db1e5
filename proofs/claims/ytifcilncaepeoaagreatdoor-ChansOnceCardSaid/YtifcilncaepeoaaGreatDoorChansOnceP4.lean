/-
  A part of the proof of ChansOnce: The walks of this seat, printed by program: deed.Deed.Bytes.
-/
import Derived.Test.YtifcilncaepeoaaGreatDoorProg
import Derived.Test.YtifcilncaepeoaaGreatDoorChansOnceP2
import Derived.KernelRfl
import Derived.Test.YtifcilncaepeoaaGreatDoorChansOnceP3
set_option linter.unusedVariables false
set_option linter.unusedSimpArgs false
set_option maxRecDepth 100000
set_option maxHeartbeats 4000000
namespace Go.SW.V
open Go.SW Go.Proofs
def tbv16:Tb:=[(4,ty4),(5,ty5),(9,ty9),(27,ty27),(44,ty44),(46,ty46),(47,ty47),(49,ty49),(51,ty51),(53,ty53),(285,P6_)]
theorem tv16:tbB Tryz.prog tbv16=true:=by kernel_rfl
theorem Pf_ (d:DeedR):Fn Tryz.prog gb 212 [.agg (DeedR.pc d)] (.tup [.str (J_ d), .int .i64 (Ae_ d)]):=by
  refine fC Tryz.func212 tv16 Tryz.ntmps212 fun w N H hG=>?_;have d_w:=DeedR.pwf w.1;have d_w':=d_w
  simp only[DeedR.wf,ShopR.wf,QueueR.wf,BindR.wf,Mail.wf] at d_w'
  have d_bind_want_k:=DeedR.kd13 w.1;have d_bind_want_k2:d.bind.want.length<=140737488355328:=w.1.2.2.2.2.2.2.2.2.2.2.2.2.2.1.1;have d_mail_head_k:=DeedR.kd24 w.1;have d_mail_head_k2:d.mail.head.length<=140737488355328:=w.1.2.2.2.2.2.2.2.2.2.2.2.2.2.2.2.2.2.2.2.2.2.2.2.2.1.1;refine gm tv16 11 [0] fun B2=>?_;refine call (Jf_ _) rfl rfl fun w3=>?_;have :=J1_ d;refine gx tv16 9 ?_;refine cnd rfl (fun h4=>?_) (fun h4=>?_)
  · have h5:=Bd_ h4;have p6:=df h5;refine gx tv16 9 ?_;refine rt2 rfl rfl ?_;refine ple ?_;have e:J_ d=[]:=by
      unfold J_
      first
        |(rw[if_neg (by assumption)];done)
        |(rw[if_pos (by assumption)];unfold Cd_;(repeat (first|rw[if_pos (by omega)]|rw[if_neg (by omega)]|rw[if_pos (by assumption)]|rw[if_neg (by assumption)]|rw[if_neg (not_not_intro (by assumption))]));first|done|rfl)
    rw[e]
    try (rw[show Ae_ d=0 by assumption])
  have h7:=Bb_ h4;have p8:=dt h7;have hdk:=Hh_ (d:=d) (by omega) p8;obtain⟨dk1,dk2,dk3,dk4,dk5,dk6,dk7,dk8,dk9,dk10,dk11,dk12,dk13,dk14,dk15,dk16,dk17,dk18,dk19⟩:=hdk;refine gx tv16 3 ?_;refine aN [1,2,3,4,5,6] 10 mixd ?_;refine gX tv16 [0,1,2,3] 6 ?_;refine vC 4 rfl (out_Num (⟨[],0⟩:Out) _ _ (by ((try have :=hrl (by assumption));first|omega|(simp[A_,Ah_,Y_,numK]<;>omega)))) rfl fun w9=>?_;have nl0:(⟨[],0⟩:Out).s.length=0:=rfl;have :=F_ (⟨[],0⟩:Out) d.kind 1;refine gX tv16 [5,6] 3 ?_;refine vC 7 rfl (out_Num _ _ _ (by ((try have :=hrl (by assumption));first|omega|(simp[A_,Ah_,Y_,numK]<;>omega)))) rfl fun w10=>?_;have :=F_ (A_ (⟨[],0⟩:Out) d.kind 1) d.tick 8;refine vE 8 rfl (aL tv16 1 fun b11=>?_);refine vT 9 rfl (sA tv16 ?_);refine vD ?_;refine gx tv16 5 ?_;refine call (Ja_ _) rfl rfl fun w12=>?_;have :=En_ d.mail;refine gx tv16 21 ?_;refine cn rfl (fun p14=>?_) fun p19=>?_
  · refine aN [2,3,4,5,6,7] 15 mixd ?_;refine gX tv16 [0,1,2,3] 11 ?_;refine vC 4 rfl (A7_ _ _) rfl fun w15=>?_;have :=G_ (A_ (A_ (⟨[],0⟩:Out) d.kind 1) d.tick 8) d.shop.name;refine gX tv16 [5,6,7,8] 6 ?_;refine vC 9 rfl (out_Num _ _ _ (by ((try have :=hrl (by assumption));first|omega|(simp[A_,Ah_,Y_,numK]<;>omega)))) rfl fun w16=>?_;have :=F_ (B_ (A_ (A_ (⟨[],0⟩:Out) d.kind 1) d.tick 8) d.shop.name) d.shop.sort 1;refine gX tv16 [10,11,12] 2 ?_;refine vC 13 rfl (A7_ _ _) rfl fun w17=>?_;have :=G_ (A_ (B_ (A_ (A_ (⟨[],0⟩:Out) d.kind 1) d.tick 8) d.shop.name) d.shop.sort 1) d.shop.to;refine vT 14 rfl (sA tv16 ?_);refine vD ?_;refine gx tv16 5 ?_;refine call (A0_ _) rfl rfl fun w18=>?_;refine gx tv16 5 ?_;refine rt2 rfl rfl ?_;refine ple ?_;have e:J_ d=(B_ (A_ (B_ (A_ (A_ (⟨[],0⟩:Out) d.kind 1) d.tick 8) d.shop.name) d.shop.sort 1) d.shop.to).s:=by
      unfold J_
      first
        |(rw[if_neg (by assumption)];done)
        |(rw[if_pos (by assumption)];unfold Cd_;(repeat (first|rw[if_pos (by omega)]|rw[if_neg (by omega)]|rw[if_pos (by assumption)]|rw[if_neg (by assumption)]|rw[if_neg (not_not_intro (by assumption))]));first|done|rfl)
    rw[e]
    try (rw[show Ae_ d=0 by assumption])
  refine gx tv16 6 ?_;refine cn rfl (fun p21=>?_) fun p27=>?_
  · refine aN [2,3,4,5,6,7] 18 mixd ?_;refine gX tv16 [0,1,2,3] 14 ?_;refine vC 4 rfl (A7_ _ _) rfl fun w22=>?_;have :=G_ (A_ (A_ (⟨[],0⟩:Out) d.kind 1) d.tick 8) d.queue.name;refine gX tv16 [5,6,7] 10 ?_;refine vC 8 rfl (out_Num _ _ _ (by ((try have :=hrl (by assumption));first|omega|(simp[A_,Ah_,Y_,numK]<;>omega)))) rfl fun w23=>?_;have :=F_ (B_ (A_ (A_ (⟨[],0⟩:Out) d.kind 1) d.tick 8) d.queue.name) d.queue.most 8;refine gX tv16 [9,10,11] 6 ?_;refine vC 12 rfl (out_Num _ _ _ (by ((try have :=hrl (by assumption));first|omega|(simp[A_,Ah_,Y_,numK]<;>omega)))) rfl fun w24=>?_;have :=F_ (A_ (B_ (A_ (A_ (⟨[],0⟩:Out) d.kind 1) d.tick 8) d.queue.name) d.queue.most 8) d.queue.life 8;refine gX tv16 [13,14,15] 2 ?_;refine vC 16 rfl (A7_ _ _) rfl fun w25=>?_;have :=G_ (A_ (A_ (B_ (A_ (A_ (⟨[],0⟩:Out) d.kind 1) d.tick 8) d.queue.name) d.queue.most 8) d.queue.life 8) d.queue.dead;refine vT 17 rfl (sA tv16 ?_);refine vD ?_;refine gx tv16 5 ?_;refine call (A0_ _) rfl rfl fun w26=>?_;refine gx tv16 5 ?_;refine rt2 rfl rfl ?_;refine ple ?_;have e:J_ d=(B_ (A_ (A_ (B_ (A_ (A_ (⟨[],0⟩:Out) d.kind 1) d.tick 8) d.queue.name) d.queue.most 8) d.queue.life 8) d.queue.dead).s:=by
      unfold J_
      first
        |(rw[if_neg (by assumption)];done)
        |(rw[if_pos (by assumption)];unfold Cd_;(repeat (first|rw[if_pos (by omega)]|rw[if_neg (by omega)]|rw[if_pos (by assumption)]|rw[if_neg (by assumption)]|rw[if_neg (not_not_intro (by assumption))]));first|done|rfl)
    rw[e]
    try (rw[show Ae_ d=0 by assumption])
  refine gx tv16 7 ?_;refine cnd rfl (fun h28=>?_) (fun h28=>?_)
  · have p29:=dt h28;refine gx tv16 2 ?_;refine cndT rfl h28 ?_;refine gm tv16 12 [2] fun B31=>?_;refine call (Fe_ _) rfl rfl fun w32=>?_;have :=Ca_ d.bind.want;refine gx tv16 7 ?_;refine aN [3,4,5,6,7,8] 21 mixd ?_;refine gX tv16 [0,1,2] 18 ?_;refine vC 3 rfl (A7_ _ _) rfl fun w33=>?_;have :=G_ (A_ (A_ (⟨[],0⟩:Out) d.kind 1) d.tick 8) d.bind.shop;refine gX tv16 [4,5] 15 ?_;refine vC 6 rfl (A7_ _ _) rfl fun w34=>?_;have :=G_ (B_ (A_ (A_ (⟨[],0⟩:Out) d.kind 1) d.tick 8) d.bind.shop) d.bind.to;refine gX tv16 [7,8] 12 ?_;refine vC 9 rfl (Hi_ _) rfl fun w35=>?_;refine vC 10 rfl (out_Num _ _ _ (by ((try have :=hrl (by assumption));first|omega|(simp[A_,Ah_,Y_,numK]<;>omega)))) rfl fun w36=>?_;have :=F_ (B_ (B_ (A_ (A_ (⟨[],0⟩:Out) d.kind 1) d.tick 8) d.bind.shop) d.bind.to) (bitN d.bind.up) 1;refine gX tv16 [11,12] 8 ?_;refine vC 13 rfl (A7_ _ _) rfl fun w37=>?_;have :=G_ (A_ (B_ (B_ (A_ (A_ (⟨[],0⟩:Out) d.kind 1) d.tick 8) d.bind.shop) d.bind.to) (bitN d.bind.up) 1) d.bind.key;refine gX tv16 [14] 6 ?_;refine vC 15 rfl (Gw_ _ _) rfl fun w38=>?_;have :=Cl_ (B_ (A_ (B_ (B_ (A_ (A_ (⟨[],0⟩:Out) d.kind 1) d.tick 8) d.bind.shop) d.bind.to) (bitN d.bind.up) 1) d.bind.key) (Ab_ d.bind.want);refine gX tv16 [16,17] 3 ?_;refine vC 18 rfl (Hi_ _) rfl fun w39=>?_;refine vC 19 rfl (out_Num _ _ _ (by ((try have :=hrl (by assumption));first|omega|(simp[A_,Ah_,Y_,numK]<;>omega)))) rfl fun w40=>?_;have :=F_ (Ah_ (B_ (A_ (B_ (B_ (A_ (A_ (⟨[],0⟩:Out) d.kind 1) d.tick 8) d.bind.shop) d.bind.to) (bitN d.bind.up) 1) d.bind.key) (Ab_ d.bind.want)) (bitN d.bind.all) 1;refine vT 20 rfl (sA tv16 ?_);refine vD ?_;refine gx tv16 5 ?_;refine call (A0_ _) rfl rfl fun w41=>?_;refine gx tv16 5 ?_;refine rt2 rfl rfl ?_;refine ple ?_;have e:J_ d=(A_ (Ah_ (B_ (A_ (B_ (B_ (A_ (A_ (⟨[],0⟩:Out) d.kind 1) d.tick 8) d.bind.shop) d.bind.to) (bitN d.bind.up) 1) d.bind.key) (Ab_ d.bind.want)) (bitN d.bind.all) 1).s:=by
      unfold J_
      first
        |(rw[if_neg (by assumption)];done)
        |(rw[if_pos (by assumption)];unfold Cd_;(repeat (first|rw[if_pos (by omega)]|rw[if_neg (by omega)]|rw[if_pos (by assumption)]|rw[if_neg (by assumption)]|rw[if_neg (not_not_intro (by assumption))]));first|done|rfl)
    rw[e]
    try (rw[show Ae_ d=0 by assumption])
  have p42:=df h28;refine gx tv16 5 ?_;refine cn rfl (fun p44=>?_) fun p57=>?_
  · refine gm tv16 12 [2] fun B46=>?_;refine call (Fe_ _) rfl rfl fun w47=>?_;have :=Ca_ d.bind.want;refine gx tv16 7 ?_;refine aN [3,4,5,6,7,8] 21 mixd ?_;refine gX tv16 [0,1,2] 18 ?_;refine vC 3 rfl (A7_ _ _) rfl fun w48=>?_;have :=G_ (A_ (A_ (⟨[],0⟩:Out) d.kind 1) d.tick 8) d.bind.shop;refine gX tv16 [4,5] 15 ?_;refine vC 6 rfl (A7_ _ _) rfl fun w49=>?_;have :=G_ (B_ (A_ (A_ (⟨[],0⟩:Out) d.kind 1) d.tick 8) d.bind.shop) d.bind.to;refine gX tv16 [7,8] 12 ?_;refine vC 9 rfl (Hi_ _) rfl fun w50=>?_;refine vC 10 rfl (out_Num _ _ _ (by ((try have :=hrl (by assumption));first|omega|(simp[A_,Ah_,Y_,numK]<;>omega)))) rfl fun w51=>?_;have :=F_ (B_ (B_ (A_ (A_ (⟨[],0⟩:Out) d.kind 1) d.tick 8) d.bind.shop) d.bind.to) (bitN d.bind.up) 1;refine gX tv16 [11,12] 8 ?_;refine vC 13 rfl (A7_ _ _) rfl fun w52=>?_;have :=G_ (A_ (B_ (B_ (A_ (A_ (⟨[],0⟩:Out) d.kind 1) d.tick 8) d.bind.shop) d.bind.to) (bitN d.bind.up) 1) d.bind.key;refine gX tv16 [14] 6 ?_;refine vC 15 rfl (Gw_ _ _) rfl fun w53=>?_;have :=Cl_ (B_ (A_ (B_ (B_ (A_ (A_ (⟨[],0⟩:Out) d.kind 1) d.tick 8) d.bind.shop) d.bind.to) (bitN d.bind.up) 1) d.bind.key) (Ab_ d.bind.want);refine gX tv16 [16,17] 3 ?_;refine vC 18 rfl (Hi_ _) rfl fun w54=>?_;refine vC 19 rfl (out_Num _ _ _ (by ((try have :=hrl (by assumption));first|omega|(simp[A_,Ah_,Y_,numK]<;>omega)))) rfl fun w55=>?_;have :=F_ (Ah_ (B_ (A_ (B_ (B_ (A_ (A_ (⟨[],0⟩:Out) d.kind 1) d.tick 8) d.bind.shop) d.bind.to) (bitN d.bind.up) 1) d.bind.key) (Ab_ d.bind.want)) (bitN d.bind.all) 1;refine vT 20 rfl (sA tv16 ?_);refine vD ?_;refine gx tv16 5 ?_;refine call (A0_ _) rfl rfl fun w56=>?_;refine gx tv16 5 ?_;refine rt2 rfl rfl ?_;refine ple ?_;have e:J_ d=(A_ (Ah_ (B_ (A_ (B_ (B_ (A_ (A_ (⟨[],0⟩:Out) d.kind 1) d.tick 8) d.bind.shop) d.bind.to) (bitN d.bind.up) 1) d.bind.key) (Ab_ d.bind.want)) (bitN d.bind.all) 1).s:=by
      unfold J_
      first
        |(rw[if_neg (by assumption)];done)
        |(rw[if_pos (by assumption)];unfold Cd_;(repeat (first|rw[if_pos (by omega)]|rw[if_neg (by omega)]|rw[if_pos (by assumption)]|rw[if_neg (by assumption)]|rw[if_neg (not_not_intro (by assumption))]));first|done|rfl)
    rw[e]
    try (rw[show Ae_ d=0 by assumption])
  refine gx tv16 6 ?_;refine cn rfl (fun p59=>?_) fun p63=>?_
  · refine gx tv16 3 ?_;refine call (Gw_ _ _) rfl rfl fun w60=>?_;have :=Cl_ (A_ (A_ (⟨[],0⟩:Out) d.kind 1) d.tick 8) (Bl_ d.mail);refine gm tv16 7 [] fun _=>?_;refine call (A0_ _) rfl rfl fun w62=>?_;refine gx tv16 5 ?_;refine rt2 rfl rfl ?_;refine ple ?_;have e:J_ d=(Ah_ (A_ (A_ (⟨[],0⟩:Out) d.kind 1) d.tick 8) (Bl_ d.mail)).s:=by
      unfold J_
      first
        |(rw[if_neg (by assumption)];done)
        |(rw[if_pos (by assumption)];unfold Cd_;(repeat (first|rw[if_pos (by omega)]|rw[if_neg (by omega)]|rw[if_pos (by assumption)]|rw[if_neg (by assumption)]|rw[if_neg (not_not_intro (by assumption))]));first|done|rfl)
    rw[e]
    try (rw[show Ae_ d=0 by assumption])
  refine gx tv16 7 ?_;refine cnd rfl (fun h64=>?_) (fun h64=>?_)
  · have p65:=dt h64;refine gx tv16 2 ?_;refine cndT rfl h64 ?_;refine gx tv16 4 ?_;refine call (A7_ _ _) rfl rfl fun w66=>?_;have :=G_ (A_ (A_ (⟨[],0⟩:Out) d.kind 1) d.tick 8) d.name;refine gm tv16 7 [] fun _=>?_;refine call (A0_ _) rfl rfl fun w68=>?_;refine gx tv16 5 ?_;refine rt2 rfl rfl ?_;refine ple ?_;have e:J_ d=(B_ (A_ (A_ (⟨[],0⟩:Out) d.kind 1) d.tick 8) d.name).s:=by
      unfold J_
      first
        |(rw[if_neg (by assumption)];done)
        |(rw[if_pos (by assumption)];unfold Cd_;(repeat (first|rw[if_pos (by omega)]|rw[if_neg (by omega)]|rw[if_pos (by assumption)]|rw[if_neg (by assumption)]|rw[if_neg (not_not_intro (by assumption))]));first|done|rfl)
    rw[e]
    try (rw[show Ae_ d=0 by assumption])
  have p69:=df h64;refine gx tv16 6 ?_;refine cnd rfl (fun h70=>?_) (fun h70=>?_)
  · have p71:=dt h70;refine gx tv16 2 ?_;refine cndT rfl h70 ?_;refine gx tv16 4 ?_;refine call (A7_ _ _) rfl rfl fun w72=>?_;have :=G_ (A_ (A_ (⟨[],0⟩:Out) d.kind 1) d.tick 8) d.name;refine gm tv16 7 [] fun _=>?_;refine call (A0_ _) rfl rfl fun w74=>?_;refine gx tv16 5 ?_;refine rt2 rfl rfl ?_;refine ple ?_;have e:J_ d=(B_ (A_ (A_ (⟨[],0⟩:Out) d.kind 1) d.tick 8) d.name).s:=by
      unfold J_
      first
        |(rw[if_neg (by assumption)];done)
        |(rw[if_pos (by assumption)];unfold Cd_;(repeat (first|rw[if_pos (by omega)]|rw[if_neg (by omega)]|rw[if_pos (by assumption)]|rw[if_neg (by assumption)]|rw[if_neg (not_not_intro (by assumption))]));first|done|rfl)
    rw[e]
    try (rw[show Ae_ d=0 by assumption])
  have p75:=df h70;refine gx tv16 5 ?_;refine cn rfl (fun p77=>?_) fun p81=>?_
  · refine gx tv16 4 ?_;refine call (A7_ _ _) rfl rfl fun w78=>?_;have :=G_ (A_ (A_ (⟨[],0⟩:Out) d.kind 1) d.tick 8) d.name;refine gm tv16 7 [] fun _=>?_;refine call (A0_ _) rfl rfl fun w80=>?_;refine gx tv16 5 ?_;refine rt2 rfl rfl ?_;refine ple ?_;have e:J_ d=(B_ (A_ (A_ (⟨[],0⟩:Out) d.kind 1) d.tick 8) d.name).s:=by
      unfold J_
      first
        |(rw[if_neg (by assumption)];done)
        |(rw[if_pos (by assumption)];unfold Cd_;(repeat (first|rw[if_pos (by omega)]|rw[if_neg (by omega)]|rw[if_pos (by assumption)]|rw[if_neg (by assumption)]|rw[if_neg (not_not_intro (by assumption))]));first|done|rfl)
    rw[e]
    try (rw[show Ae_ d=0 by assumption])
  refine gx tv16 6 ?_;refine cn rfl (fun p83=>?_) fun p88=>?_
  · refine aN [2,3,4,5,6,7] 12 mixd ?_;refine gX tv16 [0,1,2] 9 ?_;refine vC 3 rfl (A7_ _ _) rfl fun w84=>?_;have :=G_ (A_ (A_ (⟨[],0⟩:Out) d.kind 1) d.tick 8) d.name;refine gX tv16 [4,5] 6 ?_;refine vC 6 rfl (out_Num _ _ _ (by ((try have :=hrl (by assumption));first|omega|(simp[A_,Ah_,Y_,numK]<;>omega)))) rfl fun w85=>?_;have :=F_ (B_ (A_ (A_ (⟨[],0⟩:Out) d.kind 1) d.tick 8) d.name) d.id 8;refine gX tv16 [7,8,9] 2 ?_;refine vC 10 rfl (out_Num _ _ _ (by ((try have :=hrl (by assumption));first|omega|(simp[A_,Ah_,Y_,numK]<;>omega)))) rfl fun w86=>?_;have :=F_ (A_ (B_ (A_ (A_ (⟨[],0⟩:Out) d.kind 1) d.tick 8) d.name) d.id 8) d.how 1;refine vT 11 rfl (sA tv16 ?_);refine vD ?_;refine gx tv16 5 ?_;refine call (A0_ _) rfl rfl fun w87=>?_;refine gx tv16 5 ?_;refine rt2 rfl rfl ?_;refine ple ?_;have e:J_ d=(A_ (A_ (B_ (A_ (A_ (⟨[],0⟩:Out) d.kind 1) d.tick 8) d.name) d.id 8) d.how 1).s:=by
      unfold J_
      first
        |(rw[if_neg (by assumption)];done)
        |(rw[if_pos (by assumption)];unfold Cd_;(repeat (first|rw[if_pos (by omega)]|rw[if_neg (by omega)]|rw[if_pos (by assumption)]|rw[if_neg (by assumption)]|rw[if_neg (not_not_intro (by assumption))]));first|done|rfl)
    rw[e]
    try (rw[show Ae_ d=0 by assumption])
  refine gx tv16 6 ?_;refine cn rfl (fun p90=>?_) fun p95=>?_
  · refine aN [2,3,4,5,6,7] 11 mixd ?_;refine gX tv16 [0,1,2,3] 7 ?_;refine vC 4 rfl (out_Num _ _ _ (by ((try have :=hrl (by assumption));first|omega|(simp[A_,Ah_,Y_,numK]<;>omega)))) rfl fun w91=>?_;have :=F_ (A_ (A_ (⟨[],0⟩:Out) d.kind 1) d.tick 8) d.frm 1;refine gX tv16 [5,6] 4 ?_;refine vC 7 rfl (out_Num _ _ _ (by ((try have :=hrl (by assumption));first|omega|(simp[A_,Ah_,Y_,numK]<;>omega)))) rfl fun w92=>?_;have :=F_ (A_ (A_ (A_ (⟨[],0⟩:Out) d.kind 1) d.tick 8) d.frm 1) d.number 8;refine gX tv16 [8] 2 ?_;refine vC 9 rfl (Gw_ _ _) rfl fun w93=>?_;have :=Cl_ (A_ (A_ (A_ (A_ (⟨[],0⟩:Out) d.kind 1) d.tick 8) d.frm 1) d.number 8) (Bl_ d.mail);refine vT 10 rfl (sA tv16 ?_);refine vD ?_;refine gx tv16 5 ?_;refine call (A0_ _) rfl rfl fun w94=>?_;refine gx tv16 5 ?_;refine rt2 rfl rfl ?_;refine ple ?_;have e:J_ d=(Ah_ (A_ (A_ (A_ (A_ (⟨[],0⟩:Out) d.kind 1) d.tick 8) d.frm 1) d.number 8) (Bl_ d.mail)).s:=by
      unfold J_
      first
        |(rw[if_neg (by assumption)];done)
        |(rw[if_pos (by assumption)];unfold Cd_;(repeat (first|rw[if_pos (by omega)]|rw[if_neg (by omega)]|rw[if_pos (by assumption)]|rw[if_neg (by assumption)]|rw[if_neg (not_not_intro (by assumption))]));first|done|rfl)
    rw[e]
    try (rw[show Ae_ d=0 by assumption])
  refine gx tv16 6 ?_;refine cn rfl (fun p97=>?_) fun p101=>?_
  · refine aN [2,3,4,5,6,7] 9 mixd ?_;refine gX tv16 [0,1,2,3] 5 ?_;refine vC 4 rfl (out_Num _ _ _ (by ((try have :=hrl (by assumption));first|omega|(simp[A_,Ah_,Y_,numK]<;>omega)))) rfl fun w98=>?_;have :=F_ (A_ (A_ (⟨[],0⟩:Out) d.kind 1) d.tick 8) d.code 1;refine gX tv16 [5,6] 2 ?_;refine vC 7 rfl (A7_ _ _) rfl fun w99=>?_;have :=G_ (A_ (A_ (A_ (⟨[],0⟩:Out) d.kind 1) d.tick 8) d.code 1) d.text;refine vT 8 rfl (sA tv16 ?_);refine vD ?_;refine gx tv16 5 ?_;refine call (A0_ _) rfl rfl fun w100=>?_;refine gx tv16 5 ?_;refine rt2 rfl rfl ?_;refine ple ?_;have e:J_ d=(B_ (A_ (A_ (A_ (⟨[],0⟩:Out) d.kind 1) d.tick 8) d.code 1) d.text).s:=by
      unfold J_
      first
        |(rw[if_neg (by assumption)];done)
        |(rw[if_pos (by assumption)];unfold Cd_;(repeat (first|rw[if_pos (by omega)]|rw[if_neg (by omega)]|rw[if_pos (by assumption)]|rw[if_neg (by assumption)]|rw[if_neg (not_not_intro (by assumption))]));first|done|rfl)
    rw[e]
    try (rw[show Ae_ d=0 by assumption])
  refine gx tv16 6 ?_;refine call (A0_ _) rfl rfl fun w102=>?_;refine gx tv16 5 ?_;refine rt2 rfl rfl ?_;refine ple ?_;have e:J_ d=(A_ (A_ (⟨[],0⟩:Out) d.kind 1) d.tick 8).s:=by
    unfold J_
    first
      |(rw[if_neg (by assumption)];done)
      |(rw[if_pos (by assumption)];unfold Cd_;(repeat (first|rw[if_pos (by omega)]|rw[if_neg (by omega)]|rw[if_pos (by assumption)]|rw[if_neg (by assumption)]|rw[if_neg (not_not_intro (by assumption))]));first|done|rfl)
  rw[e]
  try (rw[show Ae_ d=0 by assumption])
def tbv18:Tb:=[(9,ty9),(200,Mz_)]
theorem tv18:tbB Tryz.prog tbv18=true:=by kernel_rfl
theorem Ex_ (s:Bs):Fn Tryz.prog gb 28 [.str s] (.int .i64 (Bj_ s)):=by
  refine fC Tryz.func28 tv18 Tryz.ntmps28 fun w N H hG=>?_;refine gx tv18 13 ?_;refine cn rfl (fun p2=>?_) fun p3=>?_
  · refine gx tv18 7 ?_;refine rt1 rfl rfl (ple ?_);have :s=[]:=List.eq_nil_of_length_eq_zero (by omega);subst this
    rfl
  refine gx tv18 10 ?_;refine cn rfl (fun p5=>?_) fun p6=>?_
  · refine gx tv18 7 ?_;refine rt1 rfl rfl (ple ?_);have hne:¬s=[]:=fun q=>by subst q;simp at *
    unfold Bj_
    rw[if_neg hne,if_pos (by omega)]
  refine gx tv18 9 ?_;refine loop (ι:=Nat) [0,4,5,6,7,8,9] [] (fun k=>[(3, .int .i64 (k:Int))]) (fun k=>[]) (fun k=>k<=s.length/\(s.drop k).all (fun c=>letter c.toNat)=plain s) (fun k=>s.length-k) 0 ⟨rfl,trivial⟩ trivial ?_ ?_
  · exact⟨by omega,rfl⟩
  rintro k hp7;obtain⟨hk1,hk2⟩:=hp7;refine gx tv18 9 ?_;refine cn rfl (fun p9=>?_) fun p15=>?_
  · have :=u8r (s.getD k 0);refine gx tv18 8 ?_;refine q1 (sidx tv18 k rfl rfl rfl rfl rfl (by omega)) rfl fun w10=>?_;refine call (L9_ _) rfl rfl fun w11=>?_;refine gx tv18 3 ?_;refine cnd rfl (fun h12=>?_) (fun h12=>?_)
    · have h13:=Bd_ h12;refine gx tv18 11 ?_;refine rt1 rfl rfl (ple ?_);have hne:¬s=[]:=fun q=>by subst q;simp at *
      unfold Bj_
      rw[if_neg hne,if_neg (by omega),<- hk2,Gn_ (k:=k) (by omega)]
      simp only[*,Bool.false_and,Bool.false_eq_true,if_false]
    have h14:=Bb_ h12;refine gy tv18 8 ?_;refine next (k+1) rfl rfl ⟨rfl,trivial⟩ trivial ?_ ?_
    · omega
    refine⟨by omega,?_⟩
    rw[<- hk2,Gn_ (k:=k) (by omega)]
    simp only[*,Bool.true_and]
  refine gx tv18 11 ?_;refine rt1 rfl rfl (ple ?_);have hne:¬s=[]:=fun q=>by subst q;simp at *
  unfold Bj_
  rw[if_neg hne,if_neg (by omega),<- hk2,List.drop_of_length_le (by omega)]
  rfl
theorem Un_ (s:Bs) (hs:s.length<=1000000:=by first|omega|(simp;done)|decide):Fn Tryz.prog gb 104 [.str s] (.sl strc (M_ s)):=by
  refine fC Tryz.func104 tv18 Tryz.ntmps104 fun w N H hG=>?_;refine gx tv18 13 ?_;refine cn rfl (fun p2=>?_) fun p3=>?_
  · refine gx tv18 7 ?_;refine rt1 rfl rfl ?_;refine Hg_ ?_
    unfold M_;rw[if_pos (List.eq_nil_of_length_eq_zero (by omega))]
  refine gx tv18 19 ?_;refine sw_own (t:=3) (k:=1) (e:=9) 0 strc rfl rfl ?_;refine loop (ι:=Nat×Nat×(List Bs)×Value) [0,2,6,7,8] [] (fun ⟨f,k,out,u_out⟩=>[(3, .osl 0),(4, .int .i64 (f:Int)),(5, .int .i64 (k:Int))]) (fun ⟨f,k,out,u_out⟩=>[(0, .arr u_out 1 9 strc out)]) (fun ⟨f,k,out,u_out⟩=>f<=k/\k<=s.length/\dots s=out++dots (s.drop f)/\Mw_ s f k/\out.length<=k) (fun ⟨f,k,out,u_out⟩=>s.length-k) ⟨0,0,[],(.slice none 0 0)⟩ ⟨rfl,rfl,rfl,trivial⟩ ⟨rfl,trivial⟩ ?_ ?_
  · exact⟨Nat.le_refl _,Nat.zero_le _,rfl,Lp_,Nat.zero_le _⟩
  rintro⟨f,k,out,u_out⟩ hp4;obtain⟨hk1,hk2,hk3,hk4,hk5⟩:=hp4;refine gx tv18 9 ?_;refine cn rfl (fun p6=>?_) fun p14=>?_
  · have :=u8r (s.getD k 0);refine gx tv18 8 ?_;refine q1 (sidx tv18 k rfl rfl rfl rfl rfl (by omega)) rfl fun w7=>?_;refine gx tv18 3 ?_;refine cn rfl (fun p9=>?_) fun p13=>?_
    · refine gx tv18 6 ?_;refine q1 (ssl tv18 f k rfl rfl rfl rfl rfl rfl rfl (by omega) (by omega)) rfl fun w10=>?_;refine ef (bsl 1 strc [((s.drop f).take (k-f))] tv18 rfl rfl rfl rfl rfl (fun _=>rfl) rfl (by decide) (by decide) rfl fun u11=>?_);refine ef (app tv18 [((s.drop f).take (k-f))] rfl rfl rfl rfl rfl rfl rfl rfl rfl (src_o rfl rfl) (by first|omega|(simp;omega)) rfl fun u12=>?_);refine gy tv18 15 ?_;refine next ⟨(k+1),(k+1),(out++[((s.drop f).take (k-f))]),(u12)⟩ rfl rfl ⟨rfl,rfl,rfl,trivial⟩ ⟨rfl,trivial⟩ ?_ ?_
      · (try simp only[]);omega
      (try simp only[])
      refine⟨by omega,by omega,Qo_ hk3 hk4 (by omega) (by omega) (byteEq (n:=46) (by omega) (by omega)),Lp_,by simp;omega⟩
    refine gy tv18 8 ?_;refine next ⟨f,(k+1),out,(u_out)⟩ rfl rfl ⟨rfl,rfl,rfl,trivial⟩ ⟨rfl,trivial⟩ ?_ ?_
    · (try simp only[]);omega
    exact⟨by omega,by omega,hk3,O5_ hk4 (byteNe (n:=46) (by omega) (by omega)),by omega⟩
  refine gx tv18 10 ?_;refine q1 (sslo tv18 f rfl rfl rfl rfl rfl (by omega)) rfl fun w15=>?_;refine ef (bsl 1 strc [(s.drop f)] tv18 rfl rfl rfl rfl rfl (fun _=>rfl) rfl (by decide) (by decide) rfl fun u16=>?_);refine ef (app tv18 [(s.drop f)] rfl rfl rfl rfl rfl rfl rfl rfl rfl (src_o rfl rfl) (by first|omega|(simp;omega)) rfl fun u17=>?_);refine gx tv18 3 ?_;refine givec 0 rfl ?_;refine gx tv18 1 ?_;refine rt1 rfl rfl (ple ?_);have hne:¬s=[]:=fun q=>by subst q;simp at *
  have e:M_ s=(out++[(s.drop f)]):=by unfold M_;rw[if_neg hne];exact P1_ hk3 hk4 (by omega)
  first|(rw[e];done)|(rw[e];rfl)
theorem r4_Key (s:Bs) (pattern:Bool):Fn Tryz.prog gb 67 [.str s, .bool pattern] (.int .i64 (keyE (Au_ pattern) s)):=by
  refine fC Tryz.func67 tv18 Tryz.ntmps67 fun w N H hG=>?_;refine gx tv18 13 ?_;refine cnd rfl (fun h1=>?_) (fun h1=>?_)
  · have p2:=dt h1;refine gx tv18 7 ?_;refine rt1 rfl rfl (ple ?_)
    unfold keyE
    rw[if_pos (by omega)]
  have p3:=df h1;refine gx tv18 6 ?_;refine call (Un_ _) rfl rfl fun w4=>?_;refine gx tv18 5 ?_;refine loop (ι:=Nat) [0,1,9,10,11,12,13,14] [] (fun k=>[(15, .int .i64 (k:Int))]) (fun k=>[]) (fun k=>k<=(M_ s).length/\(M_ s).any (Fq_ (Au_ pattern))=((M_ s).drop k).any (Fq_ (Au_ pattern))) (fun k=>(M_ s).length-k) 0 ⟨rfl,trivial⟩ trivial ?_ ?_
  · exact⟨Nat.zero_le _,by simp⟩
  rintro k hp5;obtain⟨hk1,hk2⟩:=hp5;have hwl:=Hm_ s;refine gx tv18 6 ?_;refine cnd rfl (fun h6=>?_) (fun h6=>?_)
  · have p7:=dt h6;obtain⟨c8,hc9⟩:=getE (xs:=M_ s) (m:=k) (by omega);have c8_l:c8.length<=9223372036854775807:=(w4.2 c8 (List.mem_of_getElem? hc9)).1;refine gx tv18 6 ?_;refine q1 (qidx tv18 k rfl rfl rfl hc9 rfl rfl rfl rfl) rfl fun w10=>?_;refine gx tv18 19 ?_;refine loop (ι:=Nat×Bool) [0,1,6,9,10,11,12,13,14,15,16,17,18,19,20,21] [] (fun ⟨j,b⟩=>[(7, .bool b),(8, .int .i64 (j:Int))]) (fun ⟨j,b⟩=>[]) (fun ⟨j,b⟩=>j<=c8.length/\(decide ((c8.length:Int)=0)||!plain c8)=(b||!((c8.drop j).all (fun c=>letter c.toNat)))) (fun ⟨j,b⟩=>c8.length-j) ⟨0,(decide ((c8.length:Int)=0))⟩ ⟨rfl,rfl,trivial⟩ trivial ?_ ?_
    · exact⟨Nat.zero_le _,rfl⟩
    rintro⟨j,b⟩ hp11;obtain⟨hj1,hj2⟩:=hp11;refine gx tv18 9 ?_;refine cnd rfl (fun h12=>?_) (fun h12=>?_)
    · have p13:=dt h12;have :=u8r (c8.getD j 0);refine gx tv18 9 ?_;refine q1g [30,31] rfl (fun hc=>sidx tv18 j rfl rfl rfl rfl rfl (by first|omega|(simp only[gOf,bl2] at *;omega))) ⟨(fun hc=>hc),(fun hc=>hc),trivial⟩ rfl rfl rfl fun _=>?_;refine callg rfl (fun hc=>(L9_ _)) rfl ⟨(fun hc=>hc),trivial⟩ rfl rfl fun _=>?_;refine gy tv18 11 ?_;refine next ⟨(j+1),(b||(!(letter ((c8.getD j 0).toNat:Int))))⟩ rfl rfl ⟨rfl,rfl,trivial⟩ trivial ?_ ?_
      · (try simp only[]);omega
      refine⟨by omega,?_⟩
      rw[hj2,Gn_ (k:=j) (by omega)]
      simp only[*,Bool.true_or,Bool.false_or,Bool.not_and,Bool.not_true,Bool.not_false,Bool.false_and,Bool.true_and,Bool.or_assoc]
    have p14:=df h12;refine gy tv18 22 ?_;refine cnd rfl (fun h15=>?_) (fun h15=>?_)
    · have h16:=bl h15;have h17:=br h15;have h18:=Bd_ h17;refine gx tv18 11 ?_;refine rt1 rfl rfl (ple ?_)
      rw[List.drop_of_length_le (by omega)] at hj2
      have hX:=hj2
      simp only[List.all_nil,Bool.not_true,Bool.or_false] at hX
      have hb:Fq_ (Au_ pattern) c8=true:=by rw[L6_ hX];first|(simp[*];done)|(simp_all;done)|(cases pattern<;>simp_all;done)|grind
      unfold keyE
      rw[if_neg (by omega),hk2,Aw_ hc9,List.any_cons,hb]
      rfl
    refine gy tv18 7 ?_;refine next (k+1) rfl rfl ⟨rfl,trivial⟩ trivial ?_ ?_
    · omega
    refine⟨by omega,?_⟩
    rw[List.drop_of_length_le (by omega)] at hj2
    have hX:=hj2
    simp only[List.all_nil,Bool.not_true,Bool.or_false] at hX
    have hb:Fq_ (Au_ pattern) c8=false:=by rw[L6_ hX];first|(simp[*];done)|(simp_all;done)|(cases pattern<;>simp_all;done)|grind
    rw[hk2,Aw_ hc9,List.any_cons,hb]
    simp
  have p19:=df h6;refine gx tv18 11 ?_;refine rt1 rfl rfl (ple ?_)
  unfold keyE
  rw[if_neg (by omega),hk2,List.drop_of_length_le (by omega)]
  rfl
def tbv19:Tb:=[(2,ty2),(5,ty5),(9,ty9),(47,ty47),(199,Pt_)]
theorem tv19:tbB Tryz.prog tbv19=true:=by kernel_rfl
theorem r9_Pair (p:Pair) (ahead:List Pair):Fn Tryz.prog gb 105 [.agg (Pair.pc p), .sl Pair.pc ahead] (.int .i64 (Bk_ p ahead)):=by
  refine fC Tryz.func105 tv19 Tryz.ntmps105 fun w N H hG=>?_;have ahead_l:ahead.length<=140737488355328:=w.2.1.1;refine gm tv19 10 [0] fun B2=>?_;refine call (Ex_ _) rfl rfl fun w3=>?_;refine gx tv19 10 ?_;refine cnd rfl (fun h4=>?_) (fun h4=>?_)
  · have h5:=Bd_ h4;have p6:=df h5;refine gx tv19 8 ?_;refine rt1 rfl rfl (ple ?_);refine congrArg (PV.int .i64) ?_
    rw[Ch_]
    simp only[bl1] at *
    first|(simp[*];done)|(simp[*];omega)|((repeat' split)<;>first|rfl|omega|(exfalso;simp_all;done)|(exfalso;simp_all;omega)|grind)
  have h7:=Bb_ h4;have p8:=dt h7;refine gx tv19 10 ?_;refine cnd rfl (fun h9=>?_) (fun h9=>?_)
  · have p10:=dt h9;refine gx tv19 7 ?_;refine rt1 rfl rfl (ple ?_);refine congrArg (PV.int .i64) ?_
    rw[Ch_]
    simp only[bl1] at *
    first|(simp[*];done)|(simp[*];omega)|((repeat' split)<;>first|rfl|omega|(exfalso;simp_all;done)|(exfalso;simp_all;omega)|grind)
  have p11:=df h9;refine gy tv19 16 ?_;refine cnd rfl (fun h12=>?_) (fun h12=>?_)
  · have h13:=bl h12;have p14:=dt h13;have h15:=br h12;have p16:=dt h15;refine gx tv19 7 ?_;refine rt1 rfl rfl (ple ?_);refine congrArg (PV.int .i64) ?_
    rw[Ch_]
    simp only[bl1] at *
    first|(simp[*];done)|(simp[*];omega)|((repeat' split)<;>first|rfl|omega|(exfalso;simp_all;done)|(exfalso;simp_all;omega)|grind)
  refine gy tv19 20 ?_;refine cnd rfl (fun h17=>?_) (fun h17=>?_)
  · have h18:=bl h17;have p19:=dt h18;have h20:=br h17;refine gx tv19 7 ?_;refine rt1 rfl rfl (ple ?_);refine congrArg (PV.int .i64) ?_
    rw[Ch_]
    simp only[bl1] at *
    first|(simp[*];done)|(simp[*];omega)|((repeat' split)<;>first|rfl|omega|(exfalso;simp_all;done)|(exfalso;simp_all;omega)|grind)
  refine gy tv19 25 ?_;refine cnd rfl (fun h21=>?_) (fun h21=>?_)
  · refine gx tv19 7 ?_;refine rt1 rfl rfl (ple ?_);refine congrArg (PV.int .i64) ?_
    rw[Ch_]
    simp only[bl1] at *
    first|(simp[*];done)|(simp[*];omega)|((repeat' split)<;>first|rfl|omega|(exfalso;simp_all;done)|(exfalso;simp_all;omega)|grind)
  have h22:=orl h21;have h23:=orr h21;refine gx tv19 11 ?_;refine loop (ι:=Nat) [0,1,2,5,8,9,10,11,12,14,15,16,17,18,19,20,21,22,23,24,25,26,27,28,29,30,31,32,33,34,35,36,37,38,39,40,41,42,43,44,45,46,47,48,49,50,51,52,53,54,55,56,57,58] [0] (fun k=>[(59, .int .i64 (k:Int))]) (fun k=>[]) (fun k=>k<=ahead.length/\Dj_ ahead p.key=Dj_ (ahead.drop k) p.key) (fun k=>ahead.length-k) 0 ⟨rfl,trivial⟩ trivial ?_ ?_
  · exact⟨Nat.zero_le _,rfl⟩
  rintro k hp24;obtain⟨hk1,hk2⟩:=hp24;refine gx tv19 6 ?_;refine cnd rfl (fun h25=>?_) (fun h25=>?_)
  · have p26:=dt h25;obtain⟨c27,hc28⟩:=getE (xs:=ahead) (m:=k) (by omega);have c27_w:=Pair.pwf (w.2.1.2 c27 (List.mem_of_getElem? hc28));refine gx tv19 6 ?_;refine q1 (qidx tv19 k rfl rfl rfl hc28 rfl rfl rfl rfl) rfl fun w29=>?_;refine gm tv19 14 [1] fun B31=>?_;refine cnd rfl (fun h32=>?_) (fun h32=>?_)
    · have p33:=dt h32;refine gx tv19 11 ?_;refine rt1 rfl rfl (ple ?_);have e9:=Qx_ hk2 (Aw_ hc28) (by assumption)
      clear hk2
      refine congrArg (PV.int .i64) ?_
      rw[Ch_]
      simp only[bl1] at *
      first|(simp[*];done)|(simp[*];omega)|((repeat' split)<;>first|rfl|omega|(exfalso;simp_all;done)|(exfalso;simp_all;omega)|grind)
    have p34:=df h32;refine gy tv19 7 ?_;refine next (k+1) rfl rfl ⟨rfl,trivial⟩ trivial ?_ ?_
    · omega
    exact⟨by omega,Pc_ hk2 (Aw_ hc28) (by assumption)⟩
  have p35:=df h25;refine gx tv19 11 ?_;refine rt1 rfl rfl (ple ?_);have e9:Dj_ ahead p.key=none:=by rw[hk2,List.drop_of_length_le (by omega)];rfl
  clear hk2
  refine congrArg (PV.int .i64) ?_
  rw[Ch_]
  simp only[bl1] at *
  first|(simp[*];done)|(simp[*];omega)|((repeat' split)<;>first|rfl|omega|(exfalso;simp_all;done)|(exfalso;simp_all;omega)|grind)
theorem Nx_ (h:List Pair):Fn Tryz.prog gb 68 [.sl Pair.pc h] (.int .i64 (Bv_ h)):=by
  refine fC Tryz.func68 tv19 Tryz.ntmps68 fun w N H hG=>?_;refine gx tv19 13 ?_;refine cn rfl (fun p2=>?_) fun p3=>?_
  · refine gx tv19 7 ?_;refine rt1 rfl rfl (ple ?_)
    simp[Bv_, *]
  refine gx tv19 11 ?_;refine loop (ι:=Nat) [0,6,7,8,9,10] [] (fun k=>[(11, .int .i64 (k:Int))]) (fun k=>[]) (fun k=>k<=h.length/\Cu_ [] h=Cu_ (h.take k) (h.drop k)) (fun k=>h.length-k) 0 ⟨rfl,trivial⟩ trivial ?_ ?_
  · exact⟨Nat.zero_le _,rfl⟩
  rintro k hp4;obtain⟨hk1,hk2⟩:=hp4;refine gx tv19 6 ?_;refine cn rfl (fun p6=>?_) fun p19=>?_
  · obtain⟨c7,hc8⟩:=getE (xs:=h) (m:=k) (by omega);have c7_w:=Pair.pwf (w.1.2 c7 (List.mem_of_getElem? hc8));refine gx tv19 7 ?_;refine q1 (qidx tv19 k rfl rfl rfl hc8 rfl rfl rfl rfl) rfl fun w9=>?_;refine gm tv19 7 [0] fun B11=>?_;refine aN [1,2,3,4,5,6] 6 mixd ?_;refine gX tv19 [0,1,2] 3 ?_;refine vq 3 (lshi tv19 k rfl rfl rfl rfl rfl (fun _=>rfl) rfl (by omega)) rfl (by kernel_rfl) rfl fun w12=>?_;refine vC 4 rfl (r9_Pair _ _) rfl fun w13=>?_;have :=Ia_ c7 (h.take k);refine gX tv19 [5] 0 ?_;refine vD ?_;refine gx tv19 7 ?_;refine cnd rfl (fun h14=>?_) (fun h14=>?_)
    · have h15:=Bd_ h14;have p16:=df h15;refine gx tv19 12 ?_;refine rt1 rfl rfl (ple ?_)
      unfold Bv_
      rw[if_neg (by omega),hk2,Aw_ hc8]
      simp only[Cu_]
      rw[if_pos (by omega)]
    have h17:=Bb_ h14;have p18:=dt h17;refine gy tv19 7 ?_;refine next (k+1) rfl rfl ⟨rfl,trivial⟩ trivial ?_ ?_
    · omega
    refine⟨by omega,?_⟩
    rw[hk2,Aw_ hc8,Vi_ hc8]
    simp only[Cu_]
    rw[if_neg (by omega)]
  refine gx tv19 11 ?_;refine rt1 rfl rfl (ple ?_)
  unfold Bv_
  rw[if_neg (by omega),hk2,List.drop_of_length_le (by omega)]
  rfl
theorem Th_ (a:List Pair) (b:List Pair):Fn Tryz.prog gb 164 [.sl Pair.pc a, .sl Pair.pc b] (.bool (decide (a=b))):=by
  refine fC Tryz.func164 tv19 Tryz.ntmps164 fun w N H hG=>?_;have a_l:a.length<=140737488355328:=w.1.1;have b_l:b.length<=140737488355328:=w.2.1.1;refine gx tv19 15 ?_;refine cnd rfl (fun h1=>?_) (fun h1=>?_)
  · have h2:=Bd_ h1;have p3:=df h2;refine gx tv19 7 ?_;refine rt1 rfl rfl (ple ?_);exact congrArg PV.bool (Ni_ (by assumption)).symm
  have h4:=Bb_ h1;have p5:=dt h4;refine gx tv19 11 ?_;refine loop (ι:=Nat) [0,1,6,7,8,9,10,11,12] [] (fun k=>[(13, .int .i64 (k:Int))]) (fun k=>[]) (fun k=>k<=a.length /\ decide (a=b) = decide (a.drop k=b.drop k)) (fun k=>a.length-k) 0 ⟨rfl,trivial⟩ trivial ?_ ?_
  · exact⟨Nat.zero_le _,rfl⟩
  rintro k hp6;obtain⟨hk1,hk2⟩:=hp6;refine gx tv19 6 ?_;refine cnd rfl (fun h7=>?_) (fun h7=>?_)
  · have p8:=dt h7;refine gx tv19 11 ?_;refine aN [0,1,2,3,4,5] 9 mixd ?_;refine gX tv19 [0,1] 7 ?_;obtain⟨c9,hc10⟩:=getE (xs:=a) (m:=k) (by omega);have c9_w:=Pair.pwf (w.1.2 c9 (List.mem_of_getElem? hc10));refine vq 2 (qidx tv19 k rfl rfl rfl hc10 rfl rfl rfl rfl) rfl (by kernel_rfl) rfl fun w11=>?_;refine gX tv19 [3,4,5] 3 ?_;obtain⟨c12,hc13⟩:=getE (xs:=b) (m:=k) (by omega);have c12_w:=Pair.pwf (w.2.1.2 c12 (List.mem_of_getElem? hc13));refine vq 6 (qidx tv19 k rfl rfl rfl hc13 rfl rfl rfl rfl) rfl (by kernel_rfl) rfl fun w14=>?_;refine gX tv19 [7] 1 ?_;refine vq 8 (sane rfl rfl Ry_ (Sv_ c9 c12)) rfl (by kernel_rfl) rfl fun w15=>?_;refine vD ?_;refine gx tv19 1 ?_;refine cnd rfl (fun h16=>?_) (fun h16=>?_)
    · have h17:=Bd_ h16;have p18:=df h17;refine gx tv19 11 ?_;refine rt1 rfl rfl (ple ?_);exact congrArg PV.bool (Ki_ hk2 (Aw_ hc10) (Aw_ hc13) (by assumption)).symm
    have h19:=Bb_ h16;have p20:=dt h19;refine gy tv19 7 ?_;refine next (k+1) rfl rfl ⟨rfl,trivial⟩ trivial ?_ ?_
    · omega
    exact⟨by omega,J7_ hk2 (Aw_ hc10) (Aw_ hc13) (by assumption)⟩
  have p21:=df h7;refine gx tv19 11 ?_;refine rt1 rfl rfl (ple ?_);exact congrArg PV.bool (Nm_ hk2 (by omega) (by omega)).symm
abbrev ty167:TI:=⟨.agg [(0,1),(1,1),(2,1),(3,1),(4,1),(5,1),(6,7)],13,144,[.int .u8 0, .int .u8 0, .int .u64 0, .int .u64 0, .bool false, .str [], .int .u64 0, .str [], .str [], .sl Pair.pc [], .str [], .int .u64 0, .int .u8 0]⟩
abbrev ty182:TI:=⟨.agg [(0,1),(1,1),(2,1),(3,1),(4,1),(5,1)],6,88,[.str [], .str [], .bool false, .str [], .sl Pair.pc [], .bool false]⟩
abbrev Rh_:TI:=⟨.agg [(0,1),(1,1),(2,3),(5,4),(9,6),(15,1),(16,1),(17,1),(18,1),(19,1),(20,1),(21,7),(28,1)],29,344,[.int .u8 0, .int .u64 0, .str [], .int .u8 0, .str [], .str [], .int .u64 0, .int .u64 0, .str [], .str [], .str [], .bool false, .str [], .sl Pair.pc [], .bool false, .str [], .int .u64 0, .int .u8 0, .int .u8 0, .int .u8 0, .int .u64 0, .int .u64 0, .str [], .str [], .sl Pair.pc [], .str [], .int .u64 0, .int .u8 0, .str []]⟩
def tbv20:Tb:=[(5,ty5),(9,ty9),(27,ty27),(44,ty44),(46,ty46),(47,ty47),(49,ty49),(51,ty51),(53,ty53),(137,ty137),(167,ty167),(182,ty182),(184,Rh_),(199,Pt_)]
theorem tv20:tbB Tryz.prog tbv20=true:=by kernel_rfl
theorem Lr_ (h:List Pair):Fn Tryz.prog gb 65 [.sl Pair.pc h] (.bool (F6_ h)):=by
  refine fC Tryz.func65 tv20 Tryz.ntmps65 fun w N H hG=>?_;refine gx tv20 13 ?_;refine cn rfl (fun p2=>?_) fun p3=>?_
  · refine gx tv20 7 ?_;refine rt1 rfl rfl (ple ?_);exact congrArg PV.bool (by simp[F6_];omega)
  refine gx tv20 11 ?_;refine loop (ι:=Nat) [0,5,6,7,8,9] [] (fun k=>[(10, .int .i64 (k:Int))]) (fun k=>[]) (fun k=>k<=h.length/\h.all La_=(h.drop k).all La_) (fun k=>h.length-k) 0 ⟨rfl,trivial⟩ trivial ?_ ?_
  · exact⟨Nat.zero_le _,rfl⟩
  rintro k hp4;obtain⟨hk1,hk2⟩:=hp4;refine gx tv20 6 ?_;refine cn rfl (fun p6=>?_) fun p17=>?_
  · obtain⟨c7,hc8⟩:=getE (xs:=h) (m:=k) (by omega);have c7_w:=Pair.pwf (w.1.2 c7 (List.mem_of_getElem? hc8));refine gx tv20 6 ?_;refine q1 (qidx tv20 k rfl rfl rfl hc8 rfl rfl rfl rfl) rfl fun w9=>?_;refine gmy tv20 19 [0] fun B11=>?_;refine cnd rfl (fun h12=>?_) (fun h12=>?_)
    · refine gx tv20 11 ?_;refine rt1 rfl rfl (ple ?_);exact congrArg PV.bool (by unfold F6_;rw[Tz_ hk2 (Aw_ hc8) (by simp[La_];first|omega|grind)];simp)
    have h13:=orl h12;have p14:=df h13;have h15:=orr h12;have p16:=df h15;refine gy tv20 7 ?_;refine next (k+1) rfl rfl ⟨rfl,trivial⟩ trivial ?_ ?_
    · omega
    exact⟨by omega,Uh_ hk2 (Aw_ hc8) (by simp[La_];omega)⟩
  refine gx tv20 11 ?_;refine rt1 rfl rfl (ple ?_);exact congrArg PV.bool (by unfold F6_;rw[all_end hk2 (by omega)];simp;omega)
theorem S8_ (m:Mail):Fn Tryz.prog gb 78 [.agg (Mail.pc m)] (.bool (Gp_ m)):=by
  refine fC Tryz.func78 tv20 Tryz.ntmps78 fun w N H hG=>?_;have m_w:=Mail.pwf w.1;have m_w':=m_w
  simp only[Mail.wf] at m_w'
  have m_head_k:=Mail.kd3 w.1;have m_head_k2:m.head.length<=140737488355328:=w.1.2.2.2.1.1;refine gmy tv20 21 [0] fun B2=>?_;refine callg rfl (fun hc=>(Lr_ _)) rfl ⟨(fun hc=>hc),trivial⟩ rfl rfl fun _=>?_;refine gy tv20 11 ?_;refine rt1 rfl rfl (ple ?_);refine congrArg PV.bool ?_
  unfold Gp_
  first|(simp only[*,Bool.and_true,Bool.true_and,Bool.false_and,Bool.and_false,decide_true,decide_false];done)|(rw[Bool.eq_iff_iff];simp[and_assoc];done)|(rw[Bool.eq_iff_iff];simp;grind)
theorem Kx_ (d:DeedR):Fn Tryz.prog gb 88 [.agg (DeedR.pc d)] (.bool (Es_ d)):=by
  refine fC Tryz.func88 tv20 Tryz.ntmps88 fun w N H hG=>?_;have d_w:=DeedR.pwf w.1;have d_w':=d_w
  simp only[DeedR.wf,ShopR.wf,QueueR.wf,BindR.wf,Mail.wf] at d_w'
  have d_bind_want_k:=DeedR.kd13 w.1;have d_bind_want_k2:d.bind.want.length<=140737488355328:=w.1.2.2.2.2.2.2.2.2.2.2.2.2.2.1.1;have d_mail_head_k:=DeedR.kd24 w.1;have d_mail_head_k2:d.mail.head.length<=140737488355328:=w.1.2.2.2.2.2.2.2.2.2.2.2.2.2.2.2.2.2.2.2.2.2.2.2.2.1.1;refine gm tv20 35 [0] fun B2=>?_;refine q1 (qmaxN (z:=(d.shop.name.length:Int)) (r:=(max (max (max (max (max (max (d.shop.name.length:Int) (d.shop.to.length:Int)) (d.queue.name.length:Int)) (d.queue.dead.length:Int)) (d.bind.shop.length:Int)) (d.bind.to.length:Int)) (d.name.length:Int))) [(d.shop.to.length:Int),(d.queue.name.length:Int),(d.queue.dead.length:Int),(d.bind.shop.length:Int),(d.bind.to.length:Int),(d.name.length:Int)] rfl rfl (N1_ (by omega))) rfl fun w3=>?_;refine gy tv20 22 ?_;refine callg rfl (fun hc=>(Lr_ _)) rfl ⟨(fun hc=>hc),trivial⟩ rfl rfl fun _=>?_;refine gy tv20 4 ?_;refine callg rfl (fun hc=>(S8_ _)) rfl ⟨(fun hc=>hc),trivial⟩ rfl rfl fun _=>?_;refine gy tv20 5 ?_;refine rt1 rfl rfl (ple ?_);refine congrArg PV.bool ?_
  unfold Es_
  first|(simp only[*,Bool.and_true,Bool.true_and,Bool.false_and,Bool.and_false,decide_true,decide_false];done)|(rw[Bool.eq_iff_iff];simp[and_assoc];done)|(rw[Bool.eq_iff_iff];simp;grind)
theorem l14_To (x:BindR) (hl:x.want.length<=1000000:=by first|omega|(have :=E3_ d (by assumption);omega)):Fn Tryz.prog gb 130 [.agg (BindR.pc x)] (.agg (BindR.pc x)):=by
  refine fC Tryz.func130 tv20 Tryz.ntmps130 fun w N H hG=>?_;refine gm tv20 15 [0,1,2] fun B2=>?_;refine ef (bsl 3 Pair.pc [] tv20 rfl rfl rfl rfl rfl (fun _=>rfl) rfl (by decide) (by decide) rfl fun u5=>?_);refine gx tv20 2 ?_;refine ef (app tv20 x.want rfl rfl rfl rfl rfl rfl rfl rfl rfl (src_l rfl (fun _=>rfl)) (by first|omega|(simp;omega)) rfl fun u6=>?_);refine gx tv20 1 ?_;refine give 3 rfl ?_;refine ef (sO tv20 ?_);refine gm tv20 9 [] fun _=>?_;refine rt1 rfl rfl (ple ?_)
  rfl
theorem l22_To (d:DeedR) (hl:d.bind.want.length<=1000000):Fn Tryz.prog gb 89 [.agg (DeedR.pc d)] (.agg (DeedR.pc d)):=by
  refine fC Tryz.func89 tv20 Tryz.ntmps89 fun w N H hG=>?_;refine gm tv20 7 [0,1] fun B2=>?_;refine aN [1,2,3,4,5,6,7] 29 mixd ?_;refine gX tv20 [0,1,2,3,4,5,6,7,8,9,11,12,13,14,15,16,17,18,19,20,21,22,23,24,25,26] 3 ?_;refine vE 10 rfl (eC (l14_To _) rfl fun w4=>?_);refine gX tv20 [27] 1 ?_;refine vT 28 rfl (sA tv20 ?_);refine vD ?_;refine gx tv20 2 ?_;refine rt1 rfl rfl (ple ?_)
  rfl
theorem Vn_:Tryz.prog.eqGuardType Tryz.prog.depth 180=false:=by kernel_rfl
theorem Wc_:Tryz.prog.eqGuardType Tryz.prog.depth 181=false:=by kernel_rfl
theorem We_ (p q:ShopR):∀ (H:Hp) (vs us:List Value),Sims H (ShopR.pc p) vs->Sims H (ShopR.pc q) us->EqV Tryz.prog 10000 180 (.agg vs.toArray) (.agg us.toArray) (decide (p=q)):=by
  intro H vs us hv hu;obtain⟨_,_,rfl,v0,v_0⟩:=hv.inv_cons;obtain⟨_,_,rfl,v1,v_1⟩:=v_0.inv_cons;obtain⟨_,_,rfl,v2,v_2⟩:=v_1.inv_cons
  cases v_2.inv_nil
  cases v0.inv_str.1;cases v1.inv_int.1;cases v2.inv_str.1
  obtain⟨_,_,rfl,u0,u_0⟩:=hu.inv_cons;obtain⟨_,_,rfl,u1,u_1⟩:=u_0.inv_cons;obtain⟨_,_,rfl,u2,u_2⟩:=u_1.inv_cons
  cases u_2.inv_nil
  cases u0.inv_str.1;cases u1.inv_int.1;cases u2.inv_str.1
  exact EqV.to (Gt_ Tryz.underlying180 (by kernel_rfl) (D8_ (by decide) ag9 rfl rfl (Dp_ Tryz.underlying9) (D8_ (by decide) ag5 rfl rfl (Eo_ Tryz.underlying5) (D8_ (by decide) ag9 rfl rfl (Dp_ Tryz.underlying9) G3_)))) (by obtain⟨a0,a1,a2⟩:=p;obtain⟨b0,b1,b2⟩:=q;rw[Bool.eq_iff_iff];simp)
theorem Vm_ (p q:QueueR):∀ (H:Hp) (vs us:List Value),Sims H (QueueR.pc p) vs->Sims H (QueueR.pc q) us->EqV Tryz.prog 10000 181 (.agg vs.toArray) (.agg us.toArray) (decide (p=q)):=by
  intro H vs us hv hu;obtain⟨_,_,rfl,v0,v_0⟩:=hv.inv_cons;obtain⟨_,_,rfl,v1,v_1⟩:=v_0.inv_cons;obtain⟨_,_,rfl,v2,v_2⟩:=v_1.inv_cons;obtain⟨_,_,rfl,v3,v_3⟩:=v_2.inv_cons
  cases v_3.inv_nil
  cases v0.inv_str.1;cases v1.inv_int.1;cases v2.inv_int.1;cases v3.inv_str.1
  obtain⟨_,_,rfl,u0,u_0⟩:=hu.inv_cons;obtain⟨_,_,rfl,u1,u_1⟩:=u_0.inv_cons;obtain⟨_,_,rfl,u2,u_2⟩:=u_1.inv_cons;obtain⟨_,_,rfl,u3,u_3⟩:=u_2.inv_cons
  cases u_3.inv_nil
  cases u0.inv_str.1;cases u1.inv_int.1;cases u2.inv_int.1;cases u3.inv_str.1
  exact EqV.to (Gt_ Tryz.underlying181 (by kernel_rfl) (D8_ (by decide) ag9 rfl rfl (Dp_ Tryz.underlying9) (D8_ (by decide) ag27 rfl rfl (Eo_ Tryz.underlying27) (D8_ (by decide) ag27 rfl rfl (Eo_ Tryz.underlying27) (D8_ (by decide) ag9 rfl rfl (Dp_ Tryz.underlying9) G3_))))) (by obtain⟨a0,a1,a2,a3⟩:=p;obtain⟨b0,b1,b2,b3⟩:=q;rw[Bool.eq_iff_iff];simp)
abbrev ty180:TI:=⟨.agg [(0,1),(1,1),(2,1)],3,40,[.str [], .int .u8 0, .str []]⟩
abbrev ty181:TI:=⟨.agg [(0,1),(1,1),(2,1),(3,1)],4,48,[.str [], .int .u64 0, .int .u64 0, .str []]⟩
def tbv21:Tb:=[(4,ty4),(5,ty5),(9,ty9),(27,ty27),(47,ty47),(51,ty51),(180,ty180),(181,ty181),(182,ty182),(184,Rh_)]
theorem tv21:tbB Tryz.prog tbv21=true:=by kernel_rfl
theorem Np_ (a:Mail) (b:Mail):Fn Tryz.prog gb 132 [.agg (Mail.pc a), .agg (Mail.pc b)] (.bool (decide (a=b))):=by
  refine fC Tryz.func132 tv21 Tryz.ntmps132 fun w N H hG=>?_;refine gmy tv21 33 [0,1] fun B2=>?_;refine callg rfl (fun hc=>(Th_ _ _)) rfl ⟨(fun hc=>hc),(fun hc=>hc),trivial⟩ rfl rfl fun _=>?_;refine gy tv21 26 ?_;refine rt1 rfl rfl (ple ?_);exact congrArg PV.bool (by rw[Bool.eq_iff_iff];first|(simp[Mail.eq_iff,and_assoc];done)|(simp[Mail.eq_iff];grind))
theorem G7_ (a:BindR) (b:BindR):Fn Tryz.prog gb 131 [.agg (BindR.pc a), .agg (BindR.pc b)] (.bool (decide (a=b))):=by
  refine fC Tryz.func131 tv21 Tryz.ntmps131 fun w N H hG=>?_;refine gmy tv21 47 [0,1] fun B2=>?_;refine callg rfl (fun hc=>(Th_ _ _)) rfl ⟨(fun hc=>hc),(fun hc=>hc),trivial⟩ rfl rfl fun _=>?_;refine gy tv21 5 ?_;refine rt1 rfl rfl (ple ?_);exact congrArg PV.bool (by rw[Bool.eq_iff_iff];first|(simp[BindR.eq_iff,and_assoc];done)|(simp[BindR.eq_iff];grind))
theorem Vk_ (a:DeedR) (b:DeedR):Fn Tryz.prog gb 90 [.agg (DeedR.pc a), .agg (DeedR.pc b)] (.bool (decide (a=b))):=by
  refine fC Tryz.func90 tv21 Tryz.ntmps90 fun w N H hG=>?_;refine gmy tv21 27 [0,1] fun B2=>?_;refine q1g [19,21] rfl (fun hc=>sane rfl rfl Vn_ (We_ a.shop b.shop)) ⟨(fun hc=>hc),(fun hc=>hc),trivial⟩ rfl rfl rfl fun _=>?_;refine gy tv21 6 ?_;refine q1g [26,28] rfl (fun hc=>sane rfl rfl Wc_ (Vm_ a.queue b.queue)) ⟨(fun hc=>hc),(fun hc=>hc),trivial⟩ rfl rfl rfl fun _=>?_;refine gy tv21 17 ?_;refine cnd rfl (fun h4=>?_) (fun h4=>?_)
  · refine gx tv21 7 ?_;refine rt1 rfl rfl (ple ?_);exact congrArg PV.bool (by rw[Bool.eq_iff_iff];first|(simp[DeedR.eq_iff,and_assoc];done)|(simp[DeedR.eq_iff];grind))
  have h5:=orl h4;have h6:=orl h5;have h7:=orl h6;have h8:=orl h7;have h9:=orl h8;have h10:=Bb_ h9;have p11:=dt h10;have h12:=orr h8;have h13:=Bb_ h12;have p14:=dt h13;have h15:=orr h7;have h16:=Bb_ h15;have p17:=dt h16;have h18:=orr h6;have h19:=Bb_ h18;have p20:=dt h19;have h21:=orr h5;have h22:=Bb_ h21;have p23:=dt h22;have h24:=orr h4;have h25:=Bb_ h24;have p26:=dt h25;refine gy tv21 40 ?_;refine cnd rfl (fun h27=>?_) (fun h27=>?_)
  · refine gx tv21 7 ?_;refine rt1 rfl rfl (ple ?_);exact congrArg PV.bool (by rw[Bool.eq_iff_iff];first|(simp[DeedR.eq_iff,and_assoc];done)|(simp[DeedR.eq_iff];grind))
  have h28:=orl h27;have h29:=orl h28;have h30:=orl h29;have h31:=orl h30;have h32:=Bb_ h31;have p33:=dt h32;have h34:=orr h30;have h35:=Bb_ h34;have p36:=dt h35;have h37:=orr h29;have h38:=Bb_ h37;have p39:=dt h38;have h40:=orr h28;have h41:=Bb_ h40;have p42:=dt h41;have h43:=orr h27;have h44:=Bb_ h43;have p45:=dt h44;refine gx tv21 8 ?_;refine call (G7_ _ _) rfl rfl fun w46=>?_;refine gy tv21 5 ?_;refine callg rfl (fun hc=>(Np_ _ _)) rfl ⟨(fun hc=>hc),(fun hc=>hc),trivial⟩ rfl rfl fun _=>?_;refine gy tv21 5 ?_;refine rt1 rfl rfl (ple ?_);exact congrArg PV.bool (by rw[Bool.eq_iff_iff];first|(simp[DeedR.eq_iff,and_assoc];done)|(simp[DeedR.eq_iff];grind))
theorem By_ (k:Int):Fn Tryz.prog gb 181 [.int .u8 k] (.bool (decide (k=1\/k=3\/k=7\/k=8))):=by
  refine fC Tryz.func181 tv21 Tryz.ntmps181 fun w N H hG=>?_;refine gy tv21 25 ?_;refine rt1 rfl rfl (ple ?_);refine congrArg PV.bool ?_
  first|(rw[Bool.eq_iff_iff];simp only[decide_eq_true_eq,Bool.false_eq_true,false_iff,true_iff];omega)|(rw[Bool.eq_iff_iff];simp[or_assoc];done)|(rw[Bool.eq_iff_iff];simp;omega)|(rw[Bool.eq_iff_iff];simp;grind)
theorem Lw_ (s:Bs):Fn Tryz.prog gb 178 [.str s] (.int .i64 (Dh_ s)):=by
  refine fC Tryz.func178 tv21 Tryz.ntmps178 fun w N H hG=>?_;refine gx tv21 12 ?_;refine cn rfl (fun p2=>?_) fun p3=>?_
  · refine gx tv21 7 ?_;refine rt1 rfl rfl (ple ?_)
    simp[Dh_, *]
  refine gx tv21 5 ?_;refine call (Ex_ _) rfl rfl fun w4=>?_;refine gx tv21 4 ?_;refine rt1 rfl rfl (ple ?_)
  simp[Dh_, *]
theorem St_ (d:DeedR):Fn Tryz.prog gb 177 [.agg (DeedR.pc d)] (.bool (!decide (d=B1_ d))):=by
  refine fC Tryz.func177 tv21 Tryz.ntmps177 fun w N H hG=>?_;refine gmy tv21 22 [0] fun B2=>?_;refine q1g [10,11] rfl (fun hc=>sane rfl rfl Vn_ (We_ d.shop (⟨[],0,[]⟩:ShopR))) ⟨(fun hc=>hc),(fun hc=>hc),trivial⟩ rfl rfl rfl fun _=>?_;refine gy tv21 8 ?_;refine q1g [19,20] rfl (fun hc=>sane rfl rfl Wc_ (Vm_ d.queue (⟨[],0,0,[]⟩:QueueR))) ⟨(fun hc=>hc),(fun hc=>hc),trivial⟩ rfl rfl rfl fun _=>?_;refine gy tv21 4 ?_;refine cnd rfl (fun h3=>?_) (fun h3=>?_)
  · refine gx tv21 7 ?_;refine rt1 rfl rfl (ple ?_);refine congrArg PV.bool (Ju_ fun hh=>?_);obtain⟨t1,t2,t3,t4,t5,t6,t7,t8,t9,t10,t11⟩:=Ef_.1 hh
    clear hh
    simp only[Bool.or_eq_true,Bool.and_eq_true,Bool.not_eq_true',decide_eq_true_eq,decide_eq_false_iff_not] at *
    grind
  have h4:=orl h3;have h5:=orr h3;refine gy tv21 15 ?_;refine callg rfl (fun hc=>(G7_ _ (⟨[],[],false,[],[],false⟩:BindR))) rfl ⟨(fun hc=>hc),(fun hc=>hc),trivial⟩ rfl rfl fun _=>?_;refine gy tv21 4 ?_;refine cnd rfl (fun h6=>?_) (fun h6=>?_)
  · have h7:=bl h6;have h8:=bl h7;have h9:=Bd_ h8;have p10:=df h9;have h11:=br h7;have h12:=Bd_ h11;have p13:=df h12;have h14:=br h6;have h15:=Bd_ h14;have p16:=df h15;refine gx tv21 7 ?_;refine rt1 rfl rfl (ple ?_);refine congrArg PV.bool (Ju_ fun hh=>?_);obtain⟨t1,t2,t3,t4,t5,t6,t7,t8,t9,t10,t11⟩:=Ef_.1 hh
    clear hh
    simp only[Bool.or_eq_true,Bool.and_eq_true,Bool.not_eq_true',decide_eq_true_eq,decide_eq_false_iff_not] at *
    grind
  refine gx tv21 6 ?_;refine call (By_ _) rfl rfl fun w17=>?_;refine gy tv21 22 ?_;refine cnd rfl (fun h18=>?_) (fun h18=>?_)
  · refine gx tv21 7 ?_;refine rt1 rfl rfl (ple ?_);refine congrArg PV.bool (Ju_ fun hh=>?_);obtain⟨t1,t2,t3,t4,t5,t6,t7,t8,t9,t10,t11⟩:=Ef_.1 hh
    clear hh
    simp only[Bool.or_eq_true,Bool.and_eq_true,Bool.not_eq_true',decide_eq_true_eq,decide_eq_false_iff_not] at *
    grind
  have h19:=orl h18;have h20:=orr h18;refine gy tv21 33 ?_;refine cnd rfl (fun h21=>?_) (fun h21=>?_)
  · refine gx tv21 7 ?_;refine rt1 rfl rfl (ple ?_);refine congrArg PV.bool (Ju_ fun hh=>?_);obtain⟨t1,t2,t3,t4,t5,t6,t7,t8,t9,t10,t11⟩:=Ef_.1 hh
    clear hh
    simp only[Bool.or_eq_true,Bool.and_eq_true,Bool.not_eq_true',decide_eq_true_eq,decide_eq_false_iff_not] at *
    grind
  have h22:=orl h21;have h23:=orr h21;refine gy tv21 14 ?_;refine callg rfl (fun hc=>(Np_ _ (⟨0,[],[],[],[],0,0⟩:Mail))) rfl ⟨(fun hc=>hc),(fun hc=>hc),trivial⟩ rfl rfl fun _=>?_;refine gy tv21 6 ?_;refine rt1 rfl rfl (ple ?_);refine congrArg PV.bool ?_
  rw[Bool.eq_iff_iff]
  simp only[Bool.or_eq_false_iff,Bool.and_eq_false_iff,Bool.not_eq_false',Bool.not_eq_true',Bool.and_eq_true,decide_eq_true_eq,decide_eq_false_iff_not] at *
  constructor
  · intro hm hh;obtain⟨_,_,_,_,_,_,_,_,_,_,t11⟩:=Ef_.1 hh;exact hm.2 (t11 hm.1.1 hm.1.2)
  intro hn;refine Classical.byContradiction fun q=>hn (Ef_.2 ⟨?_,?_,?_,?_,?_,?_,?_,?_,?_,?_,?_⟩)<;>clear hn<;>grind
theorem F9_ (b:BindR):Fn Tryz.prog gb 179 [.agg (BindR.pc b)] (.int .i64 (V_ [Bj_ b.shop,Bj_ b.to,T_ (decide ((64:Int)<b.key.length)) 5,Bv_ b.want])):=by
  refine fC Tryz.func179 tv21 Tryz.ntmps179 fun w N H hG=>?_;refine gm tv21 10 [0] fun B2=>?_;refine call (Ex_ _) rfl rfl fun w3=>?_;refine gx tv21 10 ?_;refine cnd rfl (fun h4=>?_) (fun h4=>?_)
  · have p5:=dt h4;refine gx tv21 3 ?_;refine call (Ex_ _) rfl rfl fun w6=>?_;refine gy tv21 16 ?_;refine cnd rfl (fun h7=>?_) (fun h7=>?_)
    · have h8:=bl h7;have p9:=dt h8;have h10:=br h7;have p11:=dt h10;refine gx tv21 11 ?_;refine cndF rfl (by decide) ?_;refine gx tv21 9 ?_;refine rt1 rfl rfl (ple ?_);refine congrArg (PV.int .i64) ?_
      (try simp only[bl1] at *)
      simp only[V_,T_,decide_eq_true_eq]
      (repeat' split)<;>first|rfl|omega|grind
    refine gx tv21 9 ?_;refine cn rfl (fun p13=>?_) fun p15=>?_
    · refine gx tv21 3 ?_;refine call (Nx_ _) rfl rfl fun w14=>?_;refine gx tv21 10 ?_;refine rt1 rfl rfl (ple ?_);refine congrArg (PV.int .i64) ?_
      (try simp only[bl1] at *)
      simp only[V_,T_,decide_eq_true_eq]
      (repeat' split)<;>first|rfl|omega|grind
    refine gx tv21 9 ?_;refine rt1 rfl rfl (ple ?_);refine congrArg (PV.int .i64) ?_
    (try simp only[bl1] at *)
    simp only[V_,T_,decide_eq_true_eq]
    (repeat' split)<;>first|rfl|omega|grind
  have p16:=df h4;refine gy tv21 15 ?_;refine cnd rfl (fun h17=>?_) (fun h17=>?_)
  · have h18:=bl h17;have p19:=dt h18;have h20:=br h17;have p21:=dt h20;refine gx tv21 11 ?_;refine cndF rfl (by decide) ?_;refine gx tv21 9 ?_;refine rt1 rfl rfl (ple ?_);refine congrArg (PV.int .i64) ?_
    (try simp only[bl1] at *)
    simp only[V_,T_,decide_eq_true_eq]
    (repeat' split)<;>first|rfl|omega|grind
  refine gx tv21 9 ?_;refine cndF rfl h4 ?_;refine gx tv21 9 ?_;refine rt1 rfl rfl (ple ?_);refine congrArg (PV.int .i64) ?_
  (try simp only[bl1] at *)
  simp only[V_,T_,decide_eq_true_eq]
  (repeat' split)<;>first|rfl|omega|grind
theorem K8_ (m:Mail):Fn Tryz.prog gb 180 [.agg (Mail.pc m)] (.int .i64 (Cm_ m)):=by
  refine fC Tryz.func180 tv21 Tryz.ntmps180 fun w N H hG=>?_;refine gm tv21 10 [0] fun B2=>?_;refine call (Ex_ _) rfl rfl fun w3=>?_;refine gx tv21 10 ?_;refine cnd rfl (fun h4=>?_) (fun h4=>?_)
  · have p5:=dt h4;refine gx tv21 3 ?_;refine call (r4_Key _ _) rfl rfl fun w6=>?_;refine gx tv21 10 ?_;refine cnd rfl (fun h7=>?_) (fun h7=>?_)
    · have p8:=dt h7;refine gx tv21 3 ?_;refine call (Nx_ _) rfl rfl fun w9=>?_;refine gy tv21 16 ?_;refine cnd rfl (fun h10=>?_) (fun h10=>?_)
      · have h11:=bl h10;have p12:=dt h11;have h13:=br h10;have p14:=dt h13;refine gy tv21 16 ?_;refine cnd rfl (fun h15=>?_) (fun h15=>?_)
        · have h16:=bl h15;have p17:=dt h16;have h18:=br h15;have p19:=dt h18;refine gx tv21 11 ?_;refine rt1 rfl rfl (ple ?_);have hbo:Au_ false=[]:=rfl
          simp only[hbo] at *
          refine congrArg (PV.int .i64) ?_
          simp only[bl1] at *
          unfold Cm_
          (repeat' split)<;>first|rfl|(exfalso;omega)|(exfalso;simp_all;done)|(exfalso;simp_all;omega)|grind
        refine gx tv21 9 ?_;refine rt1 rfl rfl (ple ?_);have hbo:Au_ false=[]:=rfl
        simp only[hbo] at *
        refine congrArg (PV.int .i64) ?_
        simp only[bl1] at *
        unfold Cm_
        (repeat' split)<;>first|rfl|(exfalso;omega)|(exfalso;simp_all;done)|(exfalso;simp_all;omega)|grind
      refine gy tv21 14 ?_;refine cnd rfl (fun h20=>?_) (fun h20=>?_)
      · have h21:=bl h20;have p22:=dt h21;have h23:=br h20;have p24:=dt h23;refine gx tv21 11 ?_;refine rt1 rfl rfl (ple ?_);have hbo:Au_ false=[]:=rfl
        simp only[hbo] at *
        refine congrArg (PV.int .i64) ?_
        simp only[bl1] at *
        unfold Cm_
        (repeat' split)<;>first|rfl|(exfalso;omega)|(exfalso;simp_all;done)|(exfalso;simp_all;omega)|grind
      refine gx tv21 9 ?_;refine rt1 rfl rfl (ple ?_);have hbo:Au_ false=[]:=rfl
      simp only[hbo] at *
      refine congrArg (PV.int .i64) ?_
      simp only[bl1] at *
      unfold Cm_
      (repeat' split)<;>first|rfl|(exfalso;omega)|(exfalso;simp_all;done)|(exfalso;simp_all;omega)|grind
    have p25:=df h7;refine gy tv21 15 ?_;refine cnd rfl (fun h26=>?_) (fun h26=>?_)
    · have h27:=bl h26;have p28:=dt h27;have h29:=br h26;have p30:=dt h29;refine gy tv21 16 ?_;refine cnd rfl (fun h31=>?_) (fun h31=>?_)
      · have h32:=bl h31;have p33:=dt h32;have h34:=br h31;have p35:=dt h34;refine gx tv21 11 ?_;refine rt1 rfl rfl (ple ?_);have hbo:Au_ false=[]:=rfl
        simp only[hbo] at *
        refine congrArg (PV.int .i64) ?_
        simp only[bl1] at *
        unfold Cm_
        (repeat' split)<;>first|rfl|(exfalso;omega)|(exfalso;simp_all;done)|(exfalso;simp_all;omega)|grind
      refine gx tv21 9 ?_;refine rt1 rfl rfl (ple ?_);have hbo:Au_ false=[]:=rfl
      simp only[hbo] at *
      refine congrArg (PV.int .i64) ?_
      simp only[bl1] at *
      unfold Cm_
      (repeat' split)<;>first|rfl|(exfalso;omega)|(exfalso;simp_all;done)|(exfalso;simp_all;omega)|grind
    refine gy tv21 14 ?_;refine cnd rfl (fun h36=>?_) (fun h36=>?_)
    · have h37:=bl h36;have p38:=dt h37;have h39:=br h36;have p40:=dt h39;refine gx tv21 11 ?_;refine rt1 rfl rfl (ple ?_);have hbo:Au_ false=[]:=rfl
      simp only[hbo] at *
      refine congrArg (PV.int .i64) ?_
      simp only[bl1] at *
      unfold Cm_
      (repeat' split)<;>first|rfl|(exfalso;omega)|(exfalso;simp_all;done)|(exfalso;simp_all;omega)|grind
    refine gx tv21 9 ?_;refine rt1 rfl rfl (ple ?_);have hbo:Au_ false=[]:=rfl
    simp only[hbo] at *
    refine congrArg (PV.int .i64) ?_
    simp only[bl1] at *
    unfold Cm_
    (repeat' split)<;>first|rfl|(exfalso;omega)|(exfalso;simp_all;done)|(exfalso;simp_all;omega)|grind
  have p41:=df h4;refine gx tv21 9 ?_;refine cndF rfl h4 ?_;refine gy tv21 15 ?_;refine cnd rfl (fun h42=>?_) (fun h42=>?_)
  · have h43:=bl h42;have p44:=dt h43;have h45:=br h42;have p46:=dt h45;refine gy tv21 16 ?_;refine cnd rfl (fun h47=>?_) (fun h47=>?_)
    · have h48:=bl h47;have p49:=dt h48;have h50:=br h47;have p51:=dt h50;refine gx tv21 11 ?_;refine rt1 rfl rfl (ple ?_);have hbo:Au_ false=[]:=rfl
      simp only[hbo] at *
      refine congrArg (PV.int .i64) ?_
      simp only[bl1] at *
      unfold Cm_
      (repeat' split)<;>first|rfl|(exfalso;omega)|(exfalso;simp_all;done)|(exfalso;simp_all;omega)|grind
    refine gx tv21 9 ?_;refine rt1 rfl rfl (ple ?_);have hbo:Au_ false=[]:=rfl
    simp only[hbo] at *
    refine congrArg (PV.int .i64) ?_
    simp only[bl1] at *
    unfold Cm_
    (repeat' split)<;>first|rfl|(exfalso;omega)|(exfalso;simp_all;done)|(exfalso;simp_all;omega)|grind
  refine gy tv21 14 ?_;refine cnd rfl (fun h52=>?_) (fun h52=>?_)
  · have h53:=bl h52;have p54:=dt h53;have h55:=br h52;have p56:=dt h55;refine gx tv21 11 ?_;refine rt1 rfl rfl (ple ?_);have hbo:Au_ false=[]:=rfl
    simp only[hbo] at *
    refine congrArg (PV.int .i64) ?_
    simp only[bl1] at *
    unfold Cm_
    (repeat' split)<;>first|rfl|(exfalso;omega)|(exfalso;simp_all;done)|(exfalso;simp_all;omega)|grind
  refine gx tv21 9 ?_;refine rt1 rfl rfl (ple ?_);have hbo:Au_ false=[]:=rfl
  simp only[hbo] at *
  refine congrArg (PV.int .i64) ?_
  simp only[bl1] at *
  unfold Cm_
  (repeat' split)<;>first|rfl|(exfalso;omega)|(exfalso;simp_all;done)|(exfalso;simp_all;omega)|grind
theorem Qh_ (d:DeedR):Fn Tryz.prog gb 142 [.agg (DeedR.pc d)] (.int .i64 (Ae_ d)):=by
  refine fC Tryz.func142 tv21 Tryz.ntmps142 fun w N H hG=>?_;have d_w:=DeedR.pwf w.1;have d_w':=d_w
  simp only[DeedR.wf,ShopR.wf,QueueR.wf,BindR.wf,Mail.wf] at d_w'
  have d_bind_want_k:=DeedR.kd13 w.1;have d_bind_want_k2:d.bind.want.length<=140737488355328:=w.1.2.2.2.2.2.2.2.2.2.2.2.2.2.1.1;have d_mail_head_k:=DeedR.kd24 w.1;have d_mail_head_k2:d.mail.head.length<=140737488355328:=w.1.2.2.2.2.2.2.2.2.2.2.2.2.2.2.2.2.2.2.2.2.2.2.2.2.1.1;refine gm tv21 14 [0] fun B2=>?_;refine cn rfl (fun p4=>?_) fun p5=>?_
  · refine gx tv21 7 ?_;refine rt1 rfl rfl (ple ?_);refine congrArg (PV.int .i64) ?_
    (try simp only[bl1] at *)
    unfold Ae_
    (repeat (first|rw[if_pos (by omega)]|rw[if_neg (by omega)]|rw[if_pos (by assumption)]|rw[if_neg (by assumption)]|rw[if_neg (not_not_intro (by assumption))]))
    all_goals first|done|rfl|omega|(simp only[V_,T_,decide_eq_true_eq];(repeat (first|rw[if_pos (by omega)]|rw[if_neg (by omega)]|rw[if_pos (by assumption)]|rw[if_neg (by assumption)]|rw[if_neg (not_not_intro (by assumption))]));first|done|rfl|omega|((repeat' split)<;>first|rfl|omega|grind))
  refine gx tv21 6 ?_;refine call (St_ _) rfl rfl fun w6=>?_;refine gx tv21 2 ?_;refine cnd rfl (fun h7=>?_) (fun h7=>?_)
  · have h8:=Bd_ h7;have p9:=df h8;refine gx tv21 7 ?_;refine rt1 rfl rfl (ple ?_);refine congrArg (PV.int .i64) ?_
    (try simp only[bl1] at *)
    unfold Ae_
    (repeat (first|rw[if_pos (by omega)]|rw[if_neg (by omega)]|rw[if_pos (by assumption)]|rw[if_neg (by assumption)]|rw[if_neg (not_not_intro (by assumption))]))
    all_goals first|done|rfl|omega|(simp only[V_,T_,decide_eq_true_eq];(repeat (first|rw[if_pos (by omega)]|rw[if_neg (by omega)]|rw[if_pos (by assumption)]|rw[if_neg (by assumption)]|rw[if_neg (not_not_intro (by assumption))]));first|done|rfl|omega|((repeat' split)<;>first|rfl|omega|grind))
  have h10:=Bb_ h7;have p11:=dt h10;obtain⟨t1,t2,t3,t4,t5,t6,t7,t8,t9,t10,t11⟩:=Ef_.1 p11;refine gx tv21 21 ?_;refine cn rfl (fun p13=>?_) fun p42=>?_
  · refine gx tv21 5 ?_;refine call (Ex_ _) rfl rfl fun w14=>?_;refine gy tv21 16 ?_;refine cnd rfl (fun h15=>?_) (fun h15=>?_)
    · have h16:=bl h15;have p17:=dt h16;have h18:=br h15;have p19:=dt h18;refine gx tv21 10 ?_;refine cndF rfl (by decide) ?_;refine gx tv21 8 ?_;refine call (By_ _) rfl rfl fun w20=>?_;refine gx tv21 2 ?_;refine cndF rfl (fd (by omega)) ?_;refine gy tv21 14 ?_;refine cnd rfl (fun h21=>?_) (fun h21=>?_)
      · have h22:=bl h21;have p23:=dt h22;have h24:=br h21;have p25:=dt h24;refine gx tv21 11 ?_;refine rt1 rfl rfl (ple ?_);refine congrArg (PV.int .i64) ?_
        (try simp only[bl1] at *)
        unfold Ae_
        (repeat (first|rw[if_pos (by omega)]|rw[if_neg (by omega)]|rw[if_pos (by assumption)]|rw[if_neg (by assumption)]|rw[if_neg (not_not_intro (by assumption))]))
        all_goals first|done|rfl|omega|(simp only[V_,T_,decide_eq_true_eq];(repeat (first|rw[if_pos (by omega)]|rw[if_neg (by omega)]|rw[if_pos (by assumption)]|rw[if_neg (by assumption)]|rw[if_neg (not_not_intro (by assumption))]));first|done|rfl|omega|((repeat' split)<;>first|rfl|omega|grind))
      refine gx tv21 9 ?_;refine rt1 rfl rfl (ple ?_);refine congrArg (PV.int .i64) ?_
      (try simp only[bl1] at *)
      unfold Ae_
      (repeat (first|rw[if_pos (by omega)]|rw[if_neg (by omega)]|rw[if_pos (by assumption)]|rw[if_neg (by assumption)]|rw[if_neg (not_not_intro (by assumption))]))
      all_goals first|done|rfl|omega|(simp only[V_,T_,decide_eq_true_eq];(repeat (first|rw[if_pos (by omega)]|rw[if_neg (by omega)]|rw[if_pos (by assumption)]|rw[if_neg (by assumption)]|rw[if_neg (not_not_intro (by assumption))]));first|done|rfl|omega|((repeat' split)<;>first|rfl|omega|grind))
    refine gx tv21 8 ?_;refine cn rfl (fun p27=>?_) fun p35=>?_
    · refine gx tv21 4 ?_;refine call (Lw_ _) rfl rfl fun w28=>?_;have :=El_ d.shop.to;refine gx tv21 9 ?_;refine call (By_ _) rfl rfl fun w29=>?_;refine gx tv21 2 ?_;refine cndF rfl (fd (by omega)) ?_;refine gy tv21 14 ?_;refine cnd rfl (fun h30=>?_) (fun h30=>?_)
      · have h31:=bl h30;have p32:=dt h31;have h33:=br h30;have p34:=dt h33;refine gx tv21 11 ?_;refine rt1 rfl rfl (ple ?_);refine congrArg (PV.int .i64) ?_
        (try simp only[bl1] at *)
        unfold Ae_
        (repeat (first|rw[if_pos (by omega)]|rw[if_neg (by omega)]|rw[if_pos (by assumption)]|rw[if_neg (by assumption)]|rw[if_neg (not_not_intro (by assumption))]))
        all_goals first|done|rfl|omega|(simp only[V_,T_,decide_eq_true_eq];(repeat (first|rw[if_pos (by omega)]|rw[if_neg (by omega)]|rw[if_pos (by assumption)]|rw[if_neg (by assumption)]|rw[if_neg (not_not_intro (by assumption))]));first|done|rfl|omega|((repeat' split)<;>first|rfl|omega|grind))
      refine gx tv21 9 ?_;refine rt1 rfl rfl (ple ?_);refine congrArg (PV.int .i64) ?_
      (try simp only[bl1] at *)
      unfold Ae_
      (repeat (first|rw[if_pos (by omega)]|rw[if_neg (by omega)]|rw[if_pos (by assumption)]|rw[if_neg (by assumption)]|rw[if_neg (not_not_intro (by assumption))]))
      all_goals first|done|rfl|omega|(simp only[V_,T_,decide_eq_true_eq];(repeat (first|rw[if_pos (by omega)]|rw[if_neg (by omega)]|rw[if_pos (by assumption)]|rw[if_neg (by assumption)]|rw[if_neg (not_not_intro (by assumption))]));first|done|rfl|omega|((repeat' split)<;>first|rfl|omega|grind))
    refine gx tv21 8 ?_;refine call (By_ _) rfl rfl fun w36=>?_;refine gx tv21 2 ?_;refine cndF rfl (fd (by omega)) ?_;refine gy tv21 14 ?_;refine cnd rfl (fun h37=>?_) (fun h37=>?_)
    · have h38:=bl h37;have p39:=dt h38;have h40:=br h37;have p41:=dt h40;refine gx tv21 11 ?_;refine rt1 rfl rfl (ple ?_);refine congrArg (PV.int .i64) ?_
      (try simp only[bl1] at *)
      unfold Ae_
      (repeat (first|rw[if_pos (by omega)]|rw[if_neg (by omega)]|rw[if_pos (by assumption)]|rw[if_neg (by assumption)]|rw[if_neg (not_not_intro (by assumption))]))
      all_goals first|done|rfl|omega|(simp only[V_,T_,decide_eq_true_eq];(repeat (first|rw[if_pos (by omega)]|rw[if_neg (by omega)]|rw[if_pos (by assumption)]|rw[if_neg (by assumption)]|rw[if_neg (not_not_intro (by assumption))]));first|done|rfl|omega|((repeat' split)<;>first|rfl|omega|grind))
    refine gx tv21 9 ?_;refine rt1 rfl rfl (ple ?_);refine congrArg (PV.int .i64) ?_
    (try simp only[bl1] at *)
    unfold Ae_
    (repeat (first|rw[if_pos (by omega)]|rw[if_neg (by omega)]|rw[if_pos (by assumption)]|rw[if_neg (by assumption)]|rw[if_neg (not_not_intro (by assumption))]))
    all_goals first|done|rfl|omega|(simp only[V_,T_,decide_eq_true_eq];(repeat (first|rw[if_pos (by omega)]|rw[if_neg (by omega)]|rw[if_pos (by assumption)]|rw[if_neg (by assumption)]|rw[if_neg (not_not_intro (by assumption))]));first|done|rfl|omega|((repeat' split)<;>first|rfl|omega|grind))
  refine gx tv21 6 ?_;refine cn rfl (fun p44=>?_) fun p62=>?_
  · refine gx tv21 5 ?_;refine call (Ex_ _) rfl rfl fun w45=>?_;refine gx tv21 9 ?_;refine cn rfl (fun p47=>?_) fun p55=>?_
    · refine gx tv21 4 ?_;refine call (Lw_ _) rfl rfl fun w48=>?_;have :=El_ d.queue.dead;refine gx tv21 9 ?_;refine call (By_ _) rfl rfl fun w49=>?_;refine gx tv21 2 ?_;refine cndF rfl (fd (by omega)) ?_;refine gy tv21 14 ?_;refine cnd rfl (fun h50=>?_) (fun h50=>?_)
      · have h51:=bl h50;have p52:=dt h51;have h53:=br h50;have p54:=dt h53;refine gx tv21 11 ?_;refine rt1 rfl rfl (ple ?_);refine congrArg (PV.int .i64) ?_
        (try simp only[bl1] at *)
        unfold Ae_
        (repeat (first|rw[if_pos (by omega)]|rw[if_neg (by omega)]|rw[if_pos (by assumption)]|rw[if_neg (by assumption)]|rw[if_neg (not_not_intro (by assumption))]))
        all_goals first|done|rfl|omega|(simp only[V_,T_,decide_eq_true_eq];(repeat (first|rw[if_pos (by omega)]|rw[if_neg (by omega)]|rw[if_pos (by assumption)]|rw[if_neg (by assumption)]|rw[if_neg (not_not_intro (by assumption))]));first|done|rfl|omega|((repeat' split)<;>first|rfl|omega|grind))
      refine gx tv21 9 ?_;refine rt1 rfl rfl (ple ?_);refine congrArg (PV.int .i64) ?_
      (try simp only[bl1] at *)
      unfold Ae_
      (repeat (first|rw[if_pos (by omega)]|rw[if_neg (by omega)]|rw[if_pos (by assumption)]|rw[if_neg (by assumption)]|rw[if_neg (not_not_intro (by assumption))]))
      all_goals first|done|rfl|omega|(simp only[V_,T_,decide_eq_true_eq];(repeat (first|rw[if_pos (by omega)]|rw[if_neg (by omega)]|rw[if_pos (by assumption)]|rw[if_neg (by assumption)]|rw[if_neg (not_not_intro (by assumption))]));first|done|rfl|omega|((repeat' split)<;>first|rfl|omega|grind))
    refine gx tv21 8 ?_;refine call (By_ _) rfl rfl fun w56=>?_;refine gx tv21 2 ?_;refine cndF rfl (fd (by omega)) ?_;refine gy tv21 14 ?_;refine cnd rfl (fun h57=>?_) (fun h57=>?_)
    · have h58:=bl h57;have p59:=dt h58;have h60:=br h57;have p61:=dt h60;refine gx tv21 11 ?_;refine rt1 rfl rfl (ple ?_);refine congrArg (PV.int .i64) ?_
      (try simp only[bl1] at *)
      unfold Ae_
      (repeat (first|rw[if_pos (by omega)]|rw[if_neg (by omega)]|rw[if_pos (by assumption)]|rw[if_neg (by assumption)]|rw[if_neg (not_not_intro (by assumption))]))
      all_goals first|done|rfl|omega|(simp only[V_,T_,decide_eq_true_eq];(repeat (first|rw[if_pos (by omega)]|rw[if_neg (by omega)]|rw[if_pos (by assumption)]|rw[if_neg (by assumption)]|rw[if_neg (not_not_intro (by assumption))]));first|done|rfl|omega|((repeat' split)<;>first|rfl|omega|grind))
    refine gx tv21 9 ?_;refine rt1 rfl rfl (ple ?_);refine congrArg (PV.int .i64) ?_
    (try simp only[bl1] at *)
    unfold Ae_
    (repeat (first|rw[if_pos (by omega)]|rw[if_neg (by omega)]|rw[if_pos (by assumption)]|rw[if_neg (by assumption)]|rw[if_neg (not_not_intro (by assumption))]))
    all_goals first|done|rfl|omega|(simp only[V_,T_,decide_eq_true_eq];(repeat (first|rw[if_pos (by omega)]|rw[if_neg (by omega)]|rw[if_pos (by assumption)]|rw[if_neg (by assumption)]|rw[if_neg (not_not_intro (by assumption))]));first|done|rfl|omega|((repeat' split)<;>first|rfl|omega|grind))
  refine gx tv21 7 ?_;refine cnd rfl (fun h63=>?_) (fun h63=>?_)
  · have p64:=dt h63;refine gx tv21 2 ?_;refine cndT rfl h63 ?_;refine gx tv21 3 ?_;refine call (F9_ _) rfl rfl fun w65=>?_;have :=Rg_ d.bind;refine gx tv21 9 ?_;refine call (By_ _) rfl rfl fun w66=>?_;refine gx tv21 2 ?_;refine cndF rfl (fd (by omega)) ?_;refine gy tv21 14 ?_;refine cnd rfl (fun h67=>?_) (fun h67=>?_)
    · have h68:=bl h67;have p69:=dt h68;have h70:=br h67;have p71:=dt h70;refine gx tv21 11 ?_;refine rt1 rfl rfl (ple ?_);refine congrArg (PV.int .i64) ?_
      (try simp only[bl1] at *)
      unfold Ae_
      (repeat (first|rw[if_pos (by omega)]|rw[if_neg (by omega)]|rw[if_pos (by assumption)]|rw[if_neg (by assumption)]|rw[if_neg (not_not_intro (by assumption))]))
      all_goals first|done|rfl|omega|(simp only[V_,T_,decide_eq_true_eq];(repeat (first|rw[if_pos (by omega)]|rw[if_neg (by omega)]|rw[if_pos (by assumption)]|rw[if_neg (by assumption)]|rw[if_neg (not_not_intro (by assumption))]));first|done|rfl|omega|((repeat' split)<;>first|rfl|omega|grind))
    refine gx tv21 9 ?_;refine rt1 rfl rfl (ple ?_);refine congrArg (PV.int .i64) ?_
    (try simp only[bl1] at *)
    unfold Ae_
    (repeat (first|rw[if_pos (by omega)]|rw[if_neg (by omega)]|rw[if_pos (by assumption)]|rw[if_neg (by assumption)]|rw[if_neg (not_not_intro (by assumption))]))
    all_goals first|done|rfl|omega|(simp only[V_,T_,decide_eq_true_eq];(repeat (first|rw[if_pos (by omega)]|rw[if_neg (by omega)]|rw[if_pos (by assumption)]|rw[if_neg (by assumption)]|rw[if_neg (not_not_intro (by assumption))]));first|done|rfl|omega|((repeat' split)<;>first|rfl|omega|grind))
  have p72:=df h63;refine gx tv21 5 ?_;refine cn rfl (fun p74=>?_) fun p82=>?_
  · refine gx tv21 3 ?_;refine call (F9_ _) rfl rfl fun w75=>?_;have :=Rg_ d.bind;refine gx tv21 9 ?_;refine call (By_ _) rfl rfl fun w76=>?_;refine gx tv21 2 ?_;refine cndF rfl (fd (by omega)) ?_;refine gy tv21 14 ?_;refine cnd rfl (fun h77=>?_) (fun h77=>?_)
    · have h78:=bl h77;have p79:=dt h78;have h80:=br h77;have p81:=dt h80;refine gx tv21 11 ?_;refine rt1 rfl rfl (ple ?_);refine congrArg (PV.int .i64) ?_
      (try simp only[bl1] at *)
      unfold Ae_
      (repeat (first|rw[if_pos (by omega)]|rw[if_neg (by omega)]|rw[if_pos (by assumption)]|rw[if_neg (by assumption)]|rw[if_neg (not_not_intro (by assumption))]))
      all_goals first|done|rfl|omega|(simp only[V_,T_,decide_eq_true_eq];(repeat (first|rw[if_pos (by omega)]|rw[if_neg (by omega)]|rw[if_pos (by assumption)]|rw[if_neg (by assumption)]|rw[if_neg (not_not_intro (by assumption))]));first|done|rfl|omega|((repeat' split)<;>first|rfl|omega|grind))
    refine gx tv21 9 ?_;refine rt1 rfl rfl (ple ?_);refine congrArg (PV.int .i64) ?_
    (try simp only[bl1] at *)
    unfold Ae_
    (repeat (first|rw[if_pos (by omega)]|rw[if_neg (by omega)]|rw[if_pos (by assumption)]|rw[if_neg (by assumption)]|rw[if_neg (not_not_intro (by assumption))]))
    all_goals first|done|rfl|omega|(simp only[V_,T_,decide_eq_true_eq];(repeat (first|rw[if_pos (by omega)]|rw[if_neg (by omega)]|rw[if_pos (by assumption)]|rw[if_neg (by assumption)]|rw[if_neg (not_not_intro (by assumption))]));first|done|rfl|omega|((repeat' split)<;>first|rfl|omega|grind))
  refine gx tv21 7 ?_;refine cnd rfl (fun h83=>?_) (fun h83=>?_)
  · have p84:=dt h83;refine gx tv21 2 ?_;refine cndT rfl h83 ?_;refine gx tv21 3 ?_;refine call (K8_ _) rfl rfl fun w85=>?_;have :=Gr_ d.mail;refine gx tv21 9 ?_;refine call (By_ _) rfl rfl fun w86=>?_;refine gx tv21 2 ?_;refine cndF rfl (fd (by omega)) ?_;refine gy tv21 14 ?_;refine cnd rfl (fun h87=>?_) (fun h87=>?_)
    · have h88:=bl h87;have p89:=dt h88;have h90:=br h87;have p91:=dt h90;refine gx tv21 11 ?_;refine rt1 rfl rfl (ple ?_);refine congrArg (PV.int .i64) ?_
      (try simp only[bl1] at *)
      unfold Ae_
      (repeat (first|rw[if_pos (by omega)]|rw[if_neg (by omega)]|rw[if_pos (by assumption)]|rw[if_neg (by assumption)]|rw[if_neg (not_not_intro (by assumption))]))
      all_goals first|done|rfl|omega|(simp only[V_,T_,decide_eq_true_eq];(repeat (first|rw[if_pos (by omega)]|rw[if_neg (by omega)]|rw[if_pos (by assumption)]|rw[if_neg (by assumption)]|rw[if_neg (not_not_intro (by assumption))]));first|done|rfl|omega|((repeat' split)<;>first|rfl|omega|grind))
    refine gx tv21 9 ?_;refine rt1 rfl rfl (ple ?_);refine congrArg (PV.int .i64) ?_
    (try simp only[bl1] at *)
    unfold Ae_
    (repeat (first|rw[if_pos (by omega)]|rw[if_neg (by omega)]|rw[if_pos (by assumption)]|rw[if_neg (by assumption)]|rw[if_neg (not_not_intro (by assumption))]))
    all_goals first|done|rfl|omega|(simp only[V_,T_,decide_eq_true_eq];(repeat (first|rw[if_pos (by omega)]|rw[if_neg (by omega)]|rw[if_pos (by assumption)]|rw[if_neg (by assumption)]|rw[if_neg (not_not_intro (by assumption))]));first|done|rfl|omega|((repeat' split)<;>first|rfl|omega|grind))
  have p92:=df h83;refine gx tv21 5 ?_;refine cn rfl (fun p94=>?_) fun p102=>?_
  · refine gx tv21 3 ?_;refine call (K8_ _) rfl rfl fun w95=>?_;have :=Gr_ d.mail;refine gx tv21 9 ?_;refine call (By_ _) rfl rfl fun w96=>?_;refine gx tv21 2 ?_;refine cndF rfl (fd (by omega)) ?_;refine gy tv21 14 ?_;refine cnd rfl (fun h97=>?_) (fun h97=>?_)
    · have h98:=bl h97;have p99:=dt h98;have h100:=br h97;have p101:=dt h100;refine gx tv21 11 ?_;refine rt1 rfl rfl (ple ?_);refine congrArg (PV.int .i64) ?_
      (try simp only[bl1] at *)
      unfold Ae_
      (repeat (first|rw[if_pos (by omega)]|rw[if_neg (by omega)]|rw[if_pos (by assumption)]|rw[if_neg (by assumption)]|rw[if_neg (not_not_intro (by assumption))]))
      all_goals first|done|rfl|omega|(simp only[V_,T_,decide_eq_true_eq];(repeat (first|rw[if_pos (by omega)]|rw[if_neg (by omega)]|rw[if_pos (by assumption)]|rw[if_neg (by assumption)]|rw[if_neg (not_not_intro (by assumption))]));first|done|rfl|omega|((repeat' split)<;>first|rfl|omega|grind))
    refine gx tv21 9 ?_;refine rt1 rfl rfl (ple ?_);refine congrArg (PV.int .i64) ?_
    (try simp only[bl1] at *)
    unfold Ae_
    (repeat (first|rw[if_pos (by omega)]|rw[if_neg (by omega)]|rw[if_pos (by assumption)]|rw[if_neg (by assumption)]|rw[if_neg (not_not_intro (by assumption))]))
    all_goals first|done|rfl|omega|(simp only[V_,T_,decide_eq_true_eq];(repeat (first|rw[if_pos (by omega)]|rw[if_neg (by omega)]|rw[if_pos (by assumption)]|rw[if_neg (by assumption)]|rw[if_neg (not_not_intro (by assumption))]));first|done|rfl|omega|((repeat' split)<;>first|rfl|omega|grind))
  refine gx tv21 6 ?_;refine cn rfl (fun p104=>?_) fun p120=>?_
  · refine gx tv21 8 ?_;refine cn rfl (fun p106=>?_) fun p113=>?_
    · refine gx tv21 10 ?_;refine call (By_ _) rfl rfl fun w107=>?_;refine gx tv21 2 ?_;refine cndF rfl (fd (by omega)) ?_;refine gy tv21 14 ?_;refine cnd rfl (fun h108=>?_) (fun h108=>?_)
      · have h109:=bl h108;have p110:=dt h109;have h111:=br h108;have p112:=dt h111;refine gx tv21 11 ?_;refine rt1 rfl rfl (ple ?_);refine congrArg (PV.int .i64) ?_
        (try simp only[bl1] at *)
        unfold Ae_
        (repeat (first|rw[if_pos (by omega)]|rw[if_neg (by omega)]|rw[if_pos (by assumption)]|rw[if_neg (by assumption)]|rw[if_neg (not_not_intro (by assumption))]))
        all_goals first|done|rfl|omega|(simp only[V_,T_,decide_eq_true_eq];(repeat (first|rw[if_pos (by omega)]|rw[if_neg (by omega)]|rw[if_pos (by assumption)]|rw[if_neg (by assumption)]|rw[if_neg (not_not_intro (by assumption))]));first|done|rfl|omega|((repeat' split)<;>first|rfl|omega|grind))
      refine gx tv21 9 ?_;refine rt1 rfl rfl (ple ?_);refine congrArg (PV.int .i64) ?_
      (try simp only[bl1] at *)
      unfold Ae_
      (repeat (first|rw[if_pos (by omega)]|rw[if_neg (by omega)]|rw[if_pos (by assumption)]|rw[if_neg (by assumption)]|rw[if_neg (not_not_intro (by assumption))]))
      all_goals first|done|rfl|omega|(simp only[V_,T_,decide_eq_true_eq];(repeat (first|rw[if_pos (by omega)]|rw[if_neg (by omega)]|rw[if_pos (by assumption)]|rw[if_neg (by assumption)]|rw[if_neg (not_not_intro (by assumption))]));first|done|rfl|omega|((repeat' split)<;>first|rfl|omega|grind))
    refine gx tv21 8 ?_;refine call (By_ _) rfl rfl fun w114=>?_;refine gx tv21 2 ?_;refine cndF rfl (fd (by omega)) ?_;refine gy tv21 14 ?_;refine cnd rfl (fun h115=>?_) (fun h115=>?_)
    · have h116:=bl h115;have p117:=dt h116;have h118:=br h115;have p119:=dt h118;refine gx tv21 11 ?_;refine rt1 rfl rfl (ple ?_);refine congrArg (PV.int .i64) ?_
      (try simp only[bl1] at *)
      unfold Ae_
      (repeat (first|rw[if_pos (by omega)]|rw[if_neg (by omega)]|rw[if_pos (by assumption)]|rw[if_neg (by assumption)]|rw[if_neg (not_not_intro (by assumption))]))
      all_goals first|done|rfl|omega|(simp only[V_,T_,decide_eq_true_eq];(repeat (first|rw[if_pos (by omega)]|rw[if_neg (by omega)]|rw[if_pos (by assumption)]|rw[if_neg (by assumption)]|rw[if_neg (not_not_intro (by assumption))]));first|done|rfl|omega|((repeat' split)<;>first|rfl|omega|grind))
    refine gx tv21 9 ?_;refine rt1 rfl rfl (ple ?_);refine congrArg (PV.int .i64) ?_
    (try simp only[bl1] at *)
    unfold Ae_
    (repeat (first|rw[if_pos (by omega)]|rw[if_neg (by omega)]|rw[if_pos (by assumption)]|rw[if_neg (by assumption)]|rw[if_neg (not_not_intro (by assumption))]))
    all_goals first|done|rfl|omega|(simp only[V_,T_,decide_eq_true_eq];(repeat (first|rw[if_pos (by omega)]|rw[if_neg (by omega)]|rw[if_pos (by assumption)]|rw[if_neg (by assumption)]|rw[if_neg (not_not_intro (by assumption))]));first|done|rfl|omega|((repeat' split)<;>first|rfl|omega|grind))
  refine gx tv21 8 ?_;refine call (By_ _) rfl rfl fun w121=>?_;refine gx tv21 2 ?_;refine cn rfl (fun p123=>?_) fun p130=>?_
  · refine gx tv21 3 ?_;refine call (Ex_ _) rfl rfl fun w124=>?_;refine gy tv21 15 ?_;refine cnd rfl (fun h125=>?_) (fun h125=>?_)
    · have h126:=bl h125;have p127:=dt h126;have h128:=br h125;have p129:=dt h128;refine gx tv21 11 ?_;refine rt1 rfl rfl (ple ?_);refine congrArg (PV.int .i64) ?_
      (try simp only[bl1] at *)
      unfold Ae_
      (repeat (first|rw[if_pos (by omega)]|rw[if_neg (by omega)]|rw[if_pos (by assumption)]|rw[if_neg (by assumption)]|rw[if_neg (not_not_intro (by assumption))]))
      all_goals first|done|rfl|omega|(simp only[V_,T_,decide_eq_true_eq];(repeat (first|rw[if_pos (by omega)]|rw[if_neg (by omega)]|rw[if_pos (by assumption)]|rw[if_neg (by assumption)]|rw[if_neg (not_not_intro (by assumption))]));first|done|rfl|omega|((repeat' split)<;>first|rfl|omega|grind))
    refine gx tv21 9 ?_;refine rt1 rfl rfl (ple ?_);refine congrArg (PV.int .i64) ?_
    (try simp only[bl1] at *)
    unfold Ae_
    (repeat (first|rw[if_pos (by omega)]|rw[if_neg (by omega)]|rw[if_pos (by assumption)]|rw[if_neg (by assumption)]|rw[if_neg (not_not_intro (by assumption))]))
    all_goals first|done|rfl|omega|(simp only[V_,T_,decide_eq_true_eq];(repeat (first|rw[if_pos (by omega)]|rw[if_neg (by omega)]|rw[if_pos (by assumption)]|rw[if_neg (by assumption)]|rw[if_neg (not_not_intro (by assumption))]));first|done|rfl|omega|((repeat' split)<;>first|rfl|omega|grind))
  refine gy tv21 14 ?_;refine cnd rfl (fun h131=>?_) (fun h131=>?_)
  · have h132:=bl h131;have p133:=dt h132;have h134:=br h131;have p135:=dt h134;refine gx tv21 11 ?_;refine rt1 rfl rfl (ple ?_);refine congrArg (PV.int .i64) ?_
    (try simp only[bl1] at *)
    unfold Ae_
    (repeat (first|rw[if_pos (by omega)]|rw[if_neg (by omega)]|rw[if_pos (by assumption)]|rw[if_neg (by assumption)]|rw[if_neg (not_not_intro (by assumption))]))
    all_goals first|done|rfl|omega|(simp only[V_,T_,decide_eq_true_eq];(repeat (first|rw[if_pos (by omega)]|rw[if_neg (by omega)]|rw[if_pos (by assumption)]|rw[if_neg (by assumption)]|rw[if_neg (not_not_intro (by assumption))]));first|done|rfl|omega|((repeat' split)<;>first|rfl|omega|grind))
  refine gx tv21 9 ?_;refine rt1 rfl rfl (ple ?_);refine congrArg (PV.int .i64) ?_
  (try simp only[bl1] at *)
  unfold Ae_
  (repeat (first|rw[if_pos (by omega)]|rw[if_neg (by omega)]|rw[if_pos (by assumption)]|rw[if_neg (by assumption)]|rw[if_neg (not_not_intro (by assumption))]))
  all_goals first|done|rfl|omega|(simp only[V_,T_,decide_eq_true_eq];(repeat (first|rw[if_pos (by omega)]|rw[if_neg (by omega)]|rw[if_pos (by assumption)]|rw[if_neg (by assumption)]|rw[if_neg (not_not_intro (by assumption))]));first|done|rfl|omega|((repeat' split)<;>first|rfl|omega|grind))
abbrev ty322:TI:=⟨.agg [(0,1),(1,1),(2,1),(3,1)],4,56,[.int .u8 0, .str [], .sl Pair.pc [], .bool false]⟩
def tbv22:Tb:=[(4,ty4),(5,ty5),(9,ty9),(47,ty47),(199,Pt_),(322,ty322)]
theorem tv22:tbB Tryz.prog tbv22=true:=by kernel_rfl
theorem Jh_ (r:Rule):Fn Tryz.prog gb 226 [.agg (Rule.pc r)] (.int .i64 (Kr_ r)):=by
  refine fC Tryz.func226 tv22 Tryz.ntmps226 fun w N H hG=>?_;have r_w:=Rule.pwf w.1;have r_w':=r_w
  simp only[Rule.wf] at r_w'
  have r_want_k:=Rule.kd2 w.1;have r_want_k2:r.want.length<=140737488355328:=w.1.2.2.1.1;refine gm tv22 21 [0] fun B2=>?_;refine cn rfl (fun p4=>?_) fun p5=>?_
  · refine gx tv22 8 ?_;refine rt1 rfl rfl (ple ?_);refine congrArg (PV.int .i64) ?_
    (try simp only[bl1] at *)
    unfold Kr_
    repeat (first|rw[if_pos (by omega)]|rw[if_neg (by omega)])
    all_goals first|done|rfl|omega
  refine gx tv22 8 ?_;refine cn rfl (fun p7=>?_) fun p15=>?_
  · refine gx tv22 3 ?_;refine call (Ly_ _) rfl rfl fun w8=>?_;refine gx tv22 11 ?_;refine cnd rfl (fun h9=>?_) (fun h9=>?_)
    · have h10:=Bd_ h9;have p11:=df h10;refine gx tv22 8 ?_;refine rt1 rfl rfl (ple ?_);refine congrArg (PV.int .i64) ?_
      (try simp only[bl1] at *)
      unfold Kr_
      repeat (first|rw[if_pos (by omega)]|rw[if_neg (by omega)])
      all_goals first|done|rfl|omega
    have h12:=Bb_ h9;have p13:=dt h12;refine gx tv22 6 ?_;refine call (Df_ _) rfl rfl fun w14=>?_;refine gx tv22 4 ?_;refine rt1 rfl rfl (ple ?_);refine congrArg (PV.int .i64) ?_
    (try simp only[bl1] at *)
    unfold Kr_
    repeat (first|rw[if_pos (by omega)]|rw[if_neg (by omega)])
    all_goals first|done|rfl|omega
  refine gx tv22 3 ?_;refine call (J4_ _) rfl rfl fun w16=>?_;refine gx tv22 11 ?_;refine cnd rfl (fun h17=>?_) (fun h17=>?_)
  · have h18:=Bd_ h17;have p19:=df h18;refine gx tv22 8 ?_;refine rt1 rfl rfl (ple ?_);refine congrArg (PV.int .i64) ?_
    (try simp only[bl1] at *)
    unfold Kr_
    repeat (first|rw[if_pos (by omega)]|rw[if_neg (by omega)])
    all_goals first|done|rfl|omega
  have h20:=Bb_ h17;have p21:=dt h20;refine gx tv22 6 ?_;refine call (Df_ _) rfl rfl fun w22=>?_;refine gx tv22 4 ?_;refine rt1 rfl rfl (ple ?_);refine congrArg (PV.int .i64) ?_
  (try simp only[bl1] at *)
  unfold Kr_
  repeat (first|rw[if_pos (by omega)]|rw[if_neg (by omega)])
  all_goals first|done|rfl|omega
theorem Ox_ (r:Rule) (h:List Pair):Fn Tryz.prog gb 249 [.agg (Rule.pc r), .sl Pair.pc h] (.bool (D1_ r.all h r.want)):=by
  refine fC Tryz.func249 tv22 Tryz.ntmps249 fun w N H hG=>?_;have r_want_l:r.want.length<=140737488355328:=w.1.2.2.1.1;have h_l:h.length<=140737488355328:=w.2.1.1;refine gm tv22 20 [0] fun B2=>?_;refine loop (ι:=Nat) [0,1,2,10,11,12] [0] (fun k=>[(13, .int .i64 (k:Int))]) (fun k=>[]) (fun k=>k<=r.want.length/\D1_ r.all h r.want=D1_ r.all h (r.want.drop k)) (fun k=>r.want.length-k) 0 ⟨rfl,trivial⟩ trivial ?_ ?_
  · exact⟨Nat.zero_le _,rfl⟩
  rintro k hp3;obtain⟨hk1,hk2⟩:=hp3;refine gx tv22 6 ?_;refine cn rfl (fun p5=>?_) fun p25=>?_
  · obtain⟨c6,hc7⟩:=getE (xs:=r.want) (m:=k) (by omega);have c6_w:=Pair.pwf (w.1.2.2.1.2 c6 (List.mem_of_getElem? hc7));refine gx tv22 6 ?_;refine q1 (qidx tv22 k rfl rfl rfl hc7 rfl rfl rfl rfl) rfl fun w8=>?_;refine gm tv22 10 [1] fun B10=>?_;refine call (K6_ _ _) rfl rfl fun w11=>?_;refine gm tv22 14 [2] fun B13=>?_;refine q1g [26,27] rfl (fun hc=>saeq rfl rfl Ry_ (Sv_ ((Dj_ h c6.key).getD Pair.zero) c6)) ⟨(fun hc=>hc),(fun hc=>hc),trivial⟩ rfl rfl rfl fun _=>?_;refine gy tv22 15 ?_;refine cnd rfl (fun h14=>?_) (fun h14=>?_)
    · have h15:=bl h14;have h16:=bl h15;have h17:=br h15;have p18:=dt h17;have h19:=br h14;refine gy tv22 8 ?_;refine next (k+1) rfl rfl ⟨rfl,trivial⟩ trivial ?_ ?_
      · omega
      refine⟨by omega,?_⟩
      rw[hk2,Aw_ hc7]
      simp only[D1_]
      first|(simp only[hasP];simp[*];done)|(unfold hasP;simp_all;done)|(unfold hasP;grind)
    refine gx tv22 6 ?_;refine cnd rfl (fun h20=>?_) (fun h20=>?_)
    · have h21:=bl h20;have h22:=br h20;have p23:=dt h22;refine gx tv22 13 ?_;refine rt1 rfl rfl (ple ?_);refine congrArg PV.bool ?_
      rw[hk2,Aw_ hc7]
      simp only[D1_]
      first|(simp only[hasP];simp[*];done)|(unfold hasP;simp_all;done)|(unfold hasP;grind)
    refine gx tv22 7 ?_;refine cnd rfl (fun h24=>?_) (fun h24=>?_)
    · refine gx tv22 13 ?_;refine rt1 rfl rfl (ple ?_);refine congrArg PV.bool ?_
      rw[hk2,Aw_ hc7]
      simp only[D1_]
      first|(simp only[hasP];simp[*];done)|(unfold hasP;simp_all;done)|(unfold hasP;grind)
    refine gy tv22 8 ?_;refine next (k+1) rfl rfl ⟨rfl,trivial⟩ trivial ?_ ?_
    · omega
    refine⟨by omega,?_⟩
    rw[hk2,Aw_ hc7]
    simp only[D1_]
    first|(simp only[hasP];simp[*];done)|(unfold hasP;simp_all;done)|(unfold hasP;grind)
  refine gx tv22 14 ?_;refine rt1 rfl rfl (ple ?_);refine congrArg PV.bool ?_
  rw[hk2,List.drop_of_length_le (by omega)]
  rfl
theorem Hr_ (r:Rule) (key:Bs) (h:List Pair) (hrk:r.key.length<4294967281:=by first|omega|(simp;done)|decide) (hk:key.length<4294967281:=by first|omega|(simp;done)|decide):Fn Tryz.prog gb 227 [.agg (Rule.pc r), .str key, .sl Pair.pc h] (.bool (G0_ r key h)):=by
  refine fC Tryz.func227 tv22 Tryz.ntmps227 fun w N H hG=>?_;refine gm tv22 20 [0] fun B2=>?_;refine cn rfl (fun p4=>?_) fun p5=>?_
  · refine gx tv22 12 ?_;refine rt1 rfl rfl (ple ?_);refine congrArg PV.bool ?_
    first|(simp[G0_, *];done)|(simp[G0_, *];omega)
  refine gx tv22 6 ?_;refine cn rfl (fun p7=>?_) fun p9=>?_
  · refine gx tv22 5 ?_;refine call (De_ _ _) rfl rfl fun w8=>?_;refine gx tv22 6 ?_;refine rt1 rfl rfl (ple ?_);refine congrArg PV.bool ?_
    first|(simp[G0_, *];done)|(simp[G0_, *];omega)
  refine gx tv22 6 ?_;refine cn rfl (fun p11=>?_) fun p13=>?_
  · refine gx tv22 4 ?_;refine call (Ox_ _ _) rfl rfl fun w12=>?_;refine gx tv22 6 ?_;refine rt1 rfl rfl (ple ?_);refine congrArg PV.bool ?_
    first|(simp[G0_, *];done)|(simp[G0_, *];omega)
  refine gx tv22 9 ?_;refine rt1 rfl rfl (ple ?_);refine congrArg PV.bool ?_
  first|(simp[G0_, *];done)|(simp[G0_, *];omega)
theorem Ow_ (a:Rule) (b:Rule):Fn Tryz.prog gb 288 [.agg (Rule.pc a), .agg (Rule.pc b)] (.bool (decide (a=b))):=by
  refine fC Tryz.func288 tv22 Tryz.ntmps288 fun w N H hG=>?_;refine gmy tv22 33 [0,1] fun B2=>?_;refine callg rfl (fun hc=>(Ss_ _ _)) rfl ⟨(fun hc=>hc),(fun hc=>hc),trivial⟩ rfl rfl fun _=>?_;refine gy tv22 5 ?_;refine rt1 rfl rfl (ple ?_);exact congrArg PV.bool (by rw[Bool.eq_iff_iff];first|(simp[Rule.eq_iff,and_assoc];done)|(simp[Rule.eq_iff];grind))
abbrev ty339:TI:=⟨.slc 44,1,24,[.sl ShopR.pc []]⟩
abbrev U4_:TI:=⟨.agg [(0,1),(1,1)],2,48,[.sl ShopR.pc [], .sl BindR.pc []]⟩
def tbv23:Tb:=[(5,ty5),(9,ty9),(44,ty44),(200,Mz_),(339,ty339),(342,U4_)]
theorem tv23:tbB Tryz.prog tbv23=true:=by kernel_rfl
theorem eq_Str (a:List Bs) (b:List Bs):Fn Tryz.prog gb 259 [.sl strc a, .sl strc b] (.bool (decide (a=b))):=by
  refine fC Tryz.func259 tv23 Tryz.ntmps259 fun w N H hG=>?_;have a_l:a.length<=140737488355328:=w.1.1;have b_l:b.length<=140737488355328:=w.2.1.1;refine gx tv23 15 ?_;refine cnd rfl (fun h1=>?_) (fun h1=>?_)
  · have h2:=Bd_ h1;have p3:=df h2;refine gx tv23 7 ?_;refine rt1 rfl rfl (ple ?_);exact congrArg PV.bool (Ni_ (by assumption)).symm
  have h4:=Bb_ h1;have p5:=dt h4;refine gx tv23 11 ?_;refine loop (ι:=Nat) [0,1,6,7,8,9,10,11,12] [] (fun k=>[(13, .int .i64 (k:Int))]) (fun k=>[]) (fun k=>k<=a.length /\ decide (a=b) = decide (a.drop k=b.drop k)) (fun k=>a.length-k) 0 ⟨rfl,trivial⟩ trivial ?_ ?_
  · exact⟨Nat.zero_le _,rfl⟩
  rintro k hp6;obtain⟨hk1,hk2⟩:=hp6;refine gx tv23 6 ?_;refine cnd rfl (fun h7=>?_) (fun h7=>?_)
  · have p8:=dt h7;refine gx tv23 11 ?_;refine aN [0,1,2,3,4,5] 9 mixd ?_;refine gX tv23 [0,1] 7 ?_;obtain⟨c9,hc10⟩:=getE (xs:=a) (m:=k) (by omega);have c9_l:c9.length<=9223372036854775807:=(w.1.2 c9 (List.mem_of_getElem? hc10)).1;refine vq 2 (qidx tv23 k rfl rfl rfl hc10 rfl rfl rfl rfl) rfl (by kernel_rfl) rfl fun w11=>?_;refine gX tv23 [3,4,5] 3 ?_;obtain⟨c12,hc13⟩:=getE (xs:=b) (m:=k) (by omega);have c12_l:c12.length<=9223372036854775807:=(w.2.1.2 c12 (List.mem_of_getElem? hc13)).1;refine vq 6 (qidx tv23 k rfl rfl rfl hc13 rfl rfl rfl rfl) rfl (by kernel_rfl) rfl fun w14=>?_;refine gX tv23 [7,8] 0 ?_;refine vD ?_;refine gx tv23 1 ?_;refine cnd rfl (fun h15=>?_) (fun h15=>?_)
    · have h16:=Bd_ h15;have p17:=df h16;refine gx tv23 11 ?_;refine rt1 rfl rfl (ple ?_);exact congrArg PV.bool (Ki_ hk2 (Aw_ hc10) (Aw_ hc13) (by assumption)).symm
    have h18:=Bb_ h15;have p19:=dt h18;refine gy tv23 7 ?_;refine next (k+1) rfl rfl ⟨rfl,trivial⟩ trivial ?_ ?_
    · omega
    exact⟨by omega,J7_ hk2 (Aw_ hc10) (Aw_ hc13) (by assumption)⟩
  have p20:=df h7;refine gx tv23 11 ?_;refine rt1 rfl rfl (ple ?_);exact congrArg PV.bool (Nm_ hk2 (by omega) (by omega)).symm
theorem Sf_ (l:List Bs) (x:Bs):Fn Tryz.prog gb 289 [.sl strc l, .str x] (.int .i64 (idxP (fun y=>decide (x=y)) l)):=by
  refine fC Tryz.func289 tv23 Tryz.ntmps289 fun w N H hG=>?_;have l_l:l.length<=140737488355328:=w.1.1;have x_l:x.length<=9223372036854775807:=w.2.1;refine gx tv23 14 ?_;refine loop (ι:=Nat) [0,1,6,7] [] (fun k=>[(8, .int .i64 (k:Int))]) (fun k=>[]) (fun k=>k<=l.length/\idxP (fun y=>decide (x=y)) l=idxF (fun y=>decide (x=y)) k (l.drop k)) (fun k=>l.length-k) 0 ⟨rfl,trivial⟩ trivial ?_ ?_
  · exact⟨Nat.zero_le _,rfl⟩
  rintro k hp1;obtain⟨hik1,hik2⟩:=hp1;refine gx tv23 6 ?_;refine cnd rfl (fun h2=>?_) (fun h2=>?_)
  · have p3:=dt h2;obtain⟨c4,hc5⟩:=getE (xs:=l) (m:=k) (by omega);have c4_l:c4.length<=9223372036854775807:=(w.1.2 c4 (List.mem_of_getElem? hc5)).1;refine gx tv23 15 ?_;refine q1 (qidx tv23 k rfl rfl rfl hc5 rfl rfl rfl rfl) rfl fun w6=>?_;refine gx tv23 4 ?_;refine cnd rfl (fun h7=>?_) (fun h7=>?_)
    · have p8:=dt h7;refine gx tv23 12 ?_;refine rt1 rfl rfl (ple ?_);exact congrArg (PV.int .i64) (Gu_ hik2 (Aw_ hc5) (by first|assumption|(simp[*];done))).symm
    have p9:=df h7;refine gy tv23 7 ?_;refine next (k+1) rfl rfl ⟨rfl,trivial⟩ trivial ?_ ?_
    · omega
    exact⟨by omega,Fd_ hik2 (Aw_ hc5) (by assumption)⟩
  have p10:=df h2;refine gx tv23 11 ?_;refine rt1 rfl rfl (ple ?_);exact congrArg (PV.int .i64) (Gm_ hik2 (by omega)).symm
theorem L2_ (l:List Bs) (x:Bs):Fn Tryz.prog gb 283 [.sl strc l, .str x] (.bool (decide (x∈l))):=by
  refine fC Tryz.func283 tv23 Tryz.ntmps283 fun w N H hG=>?_;refine gx tv23 9 ?_;refine call (Sf_ _ _) rfl rfl fun w1=>?_;have :=idxP_r (fun y=>decide (x=y)) l;refine gx tv23 5 ?_;refine rt1 rfl rfl (ple ?_);refine congrArg PV.bool ?_
  rw[Bool.eq_iff_iff,decide_eq_true_eq,decide_eq_true_eq,On_]
  simp
theorem Pb_ (x:ShopR):Fn Tryz.prog gb 266 [.agg (ShopR.pc x)] (.int .i64 (Ht_ x)):=by
  refine fC Tryz.func266 tv23 Tryz.ntmps266 fun w N H hG=>?_;refine gm tv23 11 [0] fun B2=>?_;refine call (Bc_ _) rfl rfl fun w3=>?_;refine gx tv23 9 ?_;refine cnd rfl (fun h4=>?_) (fun h4=>?_)
  · have h5:=Bd_ h4;have p6:=df h5;refine gx tv23 8 ?_;refine rt1 rfl rfl (ple ?_);refine congrArg (PV.int .i64) ?_
    simp only[bl1] at *
    unfold Ht_
    (repeat' split)<;>first|rfl|(exfalso;omega)|(exfalso;simp_all;done)|(exfalso;simp_all;omega)|grind
  have h7:=Bb_ h4;have p8:=dt h7;refine gx tv23 12 ?_;refine cnd rfl (fun h9=>?_) (fun h9=>?_)
  · have p10:=dt h9;refine gx tv23 8 ?_;refine rt1 rfl rfl (ple ?_);refine congrArg (PV.int .i64) ?_
    simp only[bl1] at *
    unfold Ht_
    (repeat' split)<;>first|rfl|(exfalso;omega)|(exfalso;simp_all;done)|(exfalso;simp_all;omega)|grind
  have p11:=df h9;refine gx tv23 8 ?_;refine cnd rfl (fun h12=>?_) (fun h12=>?_)
  · have p13:=dt h12;refine gx tv23 4 ?_;refine call (Bc_ _) rfl rfl fun w14=>?_;refine gx tv23 6 ?_;refine rt1 rfl rfl (ple ?_);refine congrArg (PV.int .i64) ?_
    simp only[bl1] at *
    unfold Ht_
    (repeat' split)<;>first|rfl|(exfalso;omega)|(exfalso;simp_all;done)|(exfalso;simp_all;omega)|grind
  have p15:=df h12;refine gx tv23 8 ?_;refine cnd rfl (fun h16=>?_) (fun h16=>?_)
  · have h17:=Bd_ h16;have p18:=df h17;refine gx tv23 8 ?_;refine rt1 rfl rfl (ple ?_);refine congrArg (PV.int .i64) ?_
    simp only[bl1] at *
    unfold Ht_
    (repeat' split)<;>first|rfl|(exfalso;omega)|(exfalso;simp_all;done)|(exfalso;simp_all;omega)|grind
  have h19:=Bb_ h16;have p20:=dt h19;refine gx tv23 9 ?_;refine rt1 rfl rfl (ple ?_);refine congrArg (PV.int .i64) ?_
  simp only[bl1] at *
  unfold Ht_
  (repeat' split)<;>first|rfl|(exfalso;omega)|(exfalso;simp_all;done)|(exfalso;simp_all;omega)|grind
theorem H9_ (b:BookR) (name:Bs):Fn Tryz.prog gb 267 [.agg (BookR.pc b), .str name] (.tup [.agg (ShopR.pc ((Bx_ b.shops name).getD ShopR.zero)), .bool ((Bx_ b.shops name).isSome)]):=by
  refine fC Tryz.func267 tv23 Tryz.ntmps267 fun w N H hG=>?_;have b_shops_l:b.shops.length<=140737488355328:=w.1.1.1;have b_binds_l:b.binds.length<=140737488355328:=w.1.2.1.1;have name_l:name.length<=9223372036854775807:=w.2.1;refine gm tv23 17 [0,1] fun B2=>?_;refine loop (ι:=Nat) [0,1,2,4,8,9,10] [0,1] (fun k=>[(11, .int .i64 (k:Int))]) (fun k=>[]) (fun k=>k<=b.shops.length/\Bx_ b.shops name=Bx_ (b.shops.drop k) name) (fun k=>b.shops.length-k) 0 ⟨rfl,trivial⟩ trivial ?_ ?_
  · exact⟨Nat.zero_le _,rfl⟩
  rintro k hp4;obtain⟨hk1,hk2⟩:=hp4;refine gx tv23 6 ?_;refine cnd rfl (fun h5=>?_) (fun h5=>?_)
  · have p6:=dt h5;obtain⟨c7,hc8⟩:=getE (xs:=b.shops) (m:=k) (by omega);have c7_w:=ShopR.pwf (w.1.1.2 c7 (List.mem_of_getElem? hc8));refine gx tv23 6 ?_;refine q1 (qidx tv23 k rfl rfl rfl hc8 rfl rfl rfl rfl) rfl fun w9=>?_;refine gm tv23 13 [2] fun B11=>?_;refine cnd rfl (fun h12=>?_) (fun h12=>?_)
    · have p13:=dt h12;refine gm tv23 13 [] fun _=>?_;refine rt2 rfl rfl ?_;refine ple ?_;have e:=Ou_ hk2 (Aw_ hc8) (by assumption)
      rw[e]
      rfl
    have p15:=df h12;refine gy tv23 7 ?_;refine next (k+1) rfl rfl ⟨rfl,trivial⟩ trivial ?_ ?_
    · (try simp only[]);omega
    exact⟨by omega,Nf_ hk2 (Aw_ hc8) (by assumption)⟩
  have p16:=df h5;refine gm tv23 13 [] fun _=>?_;refine rt2 rfl rfl ?_;refine ple ?_
  rw[List.drop_of_length_le (by omega)] at hk2
  rw[hk2]
  rfl
abbrev Ur_:TI:=⟨.slc 49,1,24,[.sl BindR.pc []]⟩
def tbv24:Tb:=[(4,ty4),(9,ty9),(47,ty47),(49,ty49),(199,Pt_),(322,ty322),(340,Ur_)]
theorem tv24:tbB Tryz.prog tbv24=true:=by kernel_rfl
theorem Gb_ (x:BindR) (sort:Int):Fn Tryz.prog gb 269 [.agg (BindR.pc x), .int .u8 sort] (.agg (Rule.pc (Dt_ x sort))):=by
  refine fC Tryz.func269 tv24 Tryz.ntmps269 fun w N H hG=>?_;refine gm tv24 20 [0,1] fun B2=>?_;refine rt1 rfl rfl (ple ?_)
  rfl
theorem Pz_ (x:BindR) (y:BindR):Fn Tryz.prog gb 281 [.agg (BindR.pc x), .agg (BindR.pc y)] (.bool (decide (x=y))):=by
  refine fC Tryz.func281 tv24 Tryz.ntmps281 fun w N H hG=>?_;refine gm tv24 8 [0,1] fun B2=>?_;refine aN [2,3,4,5,6,7] 27 mixd ?_;refine gXy tv24 [0,1,2,3,4,5,6,7,8,9,10,11,12,13,14,15,16,17,18,19,20,22] 5 ?_;refine vE 21 rfl (ecallg rfl (fun hc=>(Gb_ _ _)) rfl ⟨(fun hc=>hc),trivial⟩ rfl rfl fun _=>?_);refine vE 23 rfl (ecallg rfl (fun hc=>(Gb_ _ _)) rfl ⟨(fun hc=>hc),trivial⟩ rfl rfl fun _=>?_);refine vcallg 24 rfl (by kernel_rfl) rfl (fun hc=>(Ow_ _ _)) rfl rfl ⟨(fun hc=>hc),(fun hc=>hc),trivial⟩ rfl fun _=>?_;refine gXy tv24 [25,26] 0 ?_;refine vD ?_;refine gx tv24 2 ?_;refine rt1 rfl rfl (ple ?_);exact congrArg PV.bool (by rw[Bool.eq_iff_iff];first|(simp[BindR.eq_iff,Dt_,and_assoc];done)|(simp[BindR.eq_iff,Dt_];grind))
theorem Ji_ (s:List Pair) (hl:s.length<=1000000:=by first|omega|(simp;done)|(simp;omega)):Fn Tryz.prog gb 124 [.sl Pair.pc s] (.sl Pair.pc s):=by
  refine fC Tryz.func124 tv24 Tryz.ntmps124 fun w N H hG=>?_;refine gx tv24 9 ?_;refine ef (lnil tv24 rfl rfl rfl rfl rfl fun b1 hb2=>?_);refine gx tv24 2 ?_;refine cnd rfl (fun h3=>?_) (fun h3=>?_)
  · refine gx tv24 7 ?_;refine rt1 rfl rfl ?_;refine Hg_ ?_;exact hb2 (by assumption)
  refine gx tv24 4 ?_;refine ef (bsl 0 Pair.pc [] tv24 rfl rfl rfl rfl rfl (fun _=>rfl) rfl (by decide) (by decide) rfl fun u4=>?_);refine gx tv24 1 ?_;refine ef (app tv24 s rfl rfl rfl rfl rfl rfl rfl rfl rfl (src_l rfl (fun _=>rfl)) (by first|omega|(simp;omega)) rfl fun u5=>?_);refine gx tv24 3 ?_;refine givec 0 rfl ?_;refine gx tv24 1 ?_;refine rt1 rfl rfl (ple ?_)
  simp
theorem O1_ (x:BindR) (hl:x.want.length<=1000000:=by first|omega|(simp;done)|decide):Fn Tryz.prog gb 272 [.agg (BindR.pc x)] (.agg (BindR.pc x)):=by
  refine fC Tryz.func272 tv24 Tryz.ntmps272 fun w N H hG=>?_;refine gm tv24 10 [0,1] fun B2=>?_;refine call (Ji_ _) rfl rfl fun w4=>?_;refine gm tv24 11 [] fun _=>?_;refine rt1 rfl rfl (ple ?_)
  rfl
theorem Ta_ (s:List BindR) (f:FuncId) (f_fst f_cap:List PV) (f_p:BindR->Bool) (f_h:∀ x,Fn Tryz.prog gb f (argsP.apL f_fst ((.agg (BindR.pc x))::f_cap)) (.bool (f_p x))):Fn Tryz.prog gb 280 [.sl BindR.pc s, .fn f f_fst f_cap] (.int .i64 (idxP f_p s)):=by
  refine fC Tryz.func280 tv24 Tryz.ntmps280 fun w N H hG=>?_;have s_l:s.length<=140737488355328:=w.1.1;refine gx tv24 14 ?_;refine loop (ι:=Nat) [0,1,6,7] [] (fun k=>[(8, .int .i64 (k:Int))]) (fun k=>[]) (fun k=>k<=s.length/\idxP f_p s=idxF f_p k (s.drop k)) (fun k=>s.length-k) 0 ⟨rfl,trivial⟩ trivial ?_ ?_
  · exact⟨Nat.zero_le _,rfl⟩
  rintro k hp1;obtain⟨hk1,hk2⟩:=hp1;refine gx tv24 6 ?_;refine cnd rfl (fun h2=>?_) (fun h2=>?_)
  · have p3:=dt h2;obtain⟨c4,hc5⟩:=getE (xs:=s) (m:=k) (by omega);have c4_w:=BindR.pwf (w.1.2 c4 (List.mem_of_getElem? hc5));refine gx tv24 15 ?_;refine q1 (qidx tv24 k rfl rfl rfl hc5 rfl rfl rfl rfl) rfl fun w6=>?_;refine gx tv24 1 ?_;refine call (f_h c4) rfl rfl fun w7=>?_;refine gx tv24 2 ?_;refine cnd rfl (fun h8=>?_) (fun h8=>?_)
    · refine gx tv24 12 ?_;refine rt1 rfl rfl (ple ?_);exact congrArg (PV.int .i64) (Gu_ hk2 (Aw_ hc5) (by assumption)).symm
    refine gy tv24 7 ?_;refine next (k+1) rfl rfl ⟨rfl,trivial⟩ trivial ?_ ?_
    · omega
    exact⟨by omega,Fd_ hk2 (Aw_ hc5) (by assumption)⟩
  have p9:=df h2;refine gx tv24 11 ?_;refine rt1 rfl rfl (ple ?_);exact congrArg (PV.int .i64) (Gm_ hk2 (by omega)).symm
def tbv25:Tb:=[(9,ty9),(51,ty51),(285,P6_),(322,ty322)]
theorem tv25:tbB Tryz.prog tbv25=true:=by kernel_rfl
theorem P7_:Fn Tryz.prog gb 245 [] (.bool true):=by
  refine fC Tryz.func245 tv25 Tryz.ntmps245 fun w N H hG=>?_;refine gx tv25 8 ?_;refine call (out_Num (⟨[],0⟩:Out) _ _ (by ((try have :=hrl (by assumption));first|omega|(simp[A_,Ah_,Y_,numK]<;>omega)))) rfl rfl fun w1=>?_;have nl0:(⟨[],0⟩:Out).s.length=0:=rfl;have :=F_ (⟨[],0⟩:Out) 258 2;refine call (A0_ _) rfl rfl fun w2=>?_;refine gx tv25 1 ?_;refine so_rt (t:=4) (p':= .bool true) (ple (congrArg PV.bool (show decide (((A_ (⟨[],0⟩:Out) 258 2).s)=[1,2])=true by decide +kernel))) rfl ?_;refine gx tv25 1 ?_;refine ungd rfl rfl ?_;refine gx tv25 1 ?_;refine ungd rfl rfl ?_;refine call (A7_ (⟨[],0⟩:Out) _) rfl rfl fun w3=>?_;have nl0:(⟨[],0⟩:Out).s.length=0:=rfl;have :=G_ (⟨[],0⟩:Out) [97,98];refine ungd rfl rfl ?_;refine call (A0_ _) rfl rfl fun w4=>?_;refine ungd rfl rfl ?_;refine gx tv25 1 ?_;refine so_rt (t:=9) (p':= .bool true) (ple (congrArg PV.bool (show decide (((B_ (⟨[],0⟩:Out) [97,98]).s)=[0,2,97,98])=true by decide +kernel))) rfl ?_;refine gx tv25 2 ?_;refine ungd rfl rfl ?_;refine ef (ecallb 0 (Qt_ _) rfl rfl fun w5 b6=>?_);refine ungd rfl rfl ?_;refine ef (ecallm (in_Num (⟨[1,2],0⟩) _) rfl rfl rfl rfl rfl fun w7 w7p=>?_);have :=inNum_r (⟨[1,2],0⟩) 2;refine ungd rfl rfl ?_;refine gx tv25 1 ?_;refine so_rt (t:=14) (p':= .bool true) (ple (congrArg PV.bool (show decide ((((Km_ (⟨[1,2],0⟩) 2)).1)=258)=true by decide +kernel))) rfl ?_;refine gx tv25 5 ?_;refine rt1 rfl rfl (ple ?_);exact congrArg PV.bool (by first|rfl|decide +kernel)
theorem P4_:Fn Tryz.prog gb 223 [] (.bool true):=by
  refine fC Tryz.func223 tv25 Tryz.ntmps223 fun w N H hG=>?_;refine gx tv25 7 ?_;refine call P7_ rfl rfl fun w1=>?_;refine gx tv25 4 ?_;refine rt1 rfl rfl (ple ?_)
  rfl
theorem Ti_:Fn Tryz.prog gb 247 [] (.bool true):=by
  refine fC Tryz.func247 tv25 Tryz.ntmps247 fun w N H hG=>?_;refine gx tv25 7 ?_;refine call (De_ _ _) rfl rfl fun w1=>?_;refine so_rt (t:=1) (p':= .bool true) (ple (congrArg PV.bool (show mt (M_ [97,46,42,46,35]) (M_ [97,46,98])=true by decide +kernel))) rfl ?_;refine gx tv25 1 ?_;refine ungd rfl rfl ?_;refine call (De_ _ _) rfl rfl fun w2=>?_;refine so_rt (t:=3) (p':= .bool true) (ple (congrArg PV.bool (show mt (M_ [97,46,42,46,35]) (M_ [97,46,98,46,99,46,100])=true by decide +kernel))) rfl ?_;refine gx tv25 2 ?_;refine ungd rfl rfl ?_;refine call (De_ _ _) rfl rfl fun w3=>?_;refine so_rt (t:=6) (p':= .bool false) (ple (congrArg PV.bool (show mt (M_ [97,46,42,46,35]) (M_ [97])=false by decide +kernel))) rfl ?_;refine ungd rfl rfl ?_;refine gx tv25 1 ?_;refine so_rt (t:=7) (p':= .bool true) (ple (congrArg PV.bool (show !false=true by decide +kernel))) rfl ?_;refine gx tv25 2 ?_;refine ungd rfl rfl ?_;refine call (Bc_ _) rfl rfl fun w4=>?_;refine ungd rfl rfl ?_;refine gx tv25 1 ?_;refine so_rt (t:=11) (p':= .bool true) (ple (congrArg PV.bool (show decide ((Bj_ [97,45,49])=0)=true by decide +kernel))) rfl ?_;refine gx tv25 5 ?_;refine rt1 rfl rfl (ple ?_);exact congrArg PV.bool (by first|rfl|decide +kernel)
theorem H8_:Fn Tryz.prog gb 225 [] (.bool true):=by
  refine fC Tryz.func225 tv25 Tryz.ntmps225 fun w N H hG=>?_;refine gx tv25 7 ?_;refine call Ti_ rfl rfl fun w1=>?_;refine gx tv25 4 ?_;refine rt1 rfl rfl (ple ?_)
  rfl
theorem Q2_:Fn Tryz.prog gb 190 [] (.bool true):=by
  refine fC Tryz.func190 tv25 Tryz.ntmps190 fun w N H hG=>?_;refine gx tv25 7 ?_;refine call (Fn.le (Fe_ []) (Ac_ Cy_ C5_) (ple rfl) rfl) rfl rfl fun w1=>?_;have :=Ca_ [];refine gx tv25 9 ?_;refine call P4_ rfl rfl fun w2=>?_;refine gx tv25 1 ?_;refine ungd rfl rfl ?_;refine call H8_ rfl rfl fun w3=>?_;refine gx tv25 2 ?_;refine ungd rfl rfl ?_;refine gx tv25 1 ?_;refine ungd rfl rfl ?_;refine gx tv25 1 ?_;refine so_rt (t:=13) (p':= .bool true) (ple (congrArg PV.bool (show decide ((Bv_ [])=0)=true by decide +kernel))) rfl ?_;refine gx tv25 2 ?_;refine ungd rfl rfl ?_;refine gx tv25 1 ?_;refine ungd rfl rfl ?_;refine gx tv25 1 ?_;refine so_rt (t:=17) (p':= .bool true) (ple (congrArg PV.bool (show decide ((Ab_ [])=[0])=true by decide +kernel))) rfl ?_;refine gx tv25 5 ?_;refine rt1 rfl rfl (ple ?_);exact congrArg PV.bool (by first|rfl|decide +kernel)
theorem Ln_:Fn Tryz.prog gb 150 [] (.bool true):=by
  refine fC Tryz.func150 tv25 Tryz.ntmps150 fun w N H hG=>?_;refine gx tv25 7 ?_;refine call Q2_ rfl rfl fun w1=>?_;refine gx tv25 4 ?_;refine rt1 rfl rfl (ple ?_)
  rfl
theorem Rz_:Fn Tryz.prog gb 188 [] (.bool true):=by
  refine fC Tryz.func188 tv25 Tryz.ntmps188 fun w N H hG=>?_;refine gm tv25 14 [0] fun B2=>?_;refine call H8_ rfl rfl fun w3=>?_;refine gx tv25 1 ?_;refine ungd rfl rfl ?_;refine call Ln_ rfl rfl fun w4=>?_;refine gx tv25 2 ?_;refine ungd rfl rfl ?_;refine gx tv25 1 ?_;refine ungd rfl rfl ?_;refine call (Jh_ (⟨2,[97,46,35],[],false⟩:Rule)) rfl rfl fun w5=>?_;refine ungd rfl rfl ?_;refine gx tv25 1 ?_;refine so_rt (t:=10) (p':= .bool true) (ple (congrArg PV.bool (show decide ((Kr_ (⟨2,[97,46,35],[],false⟩:Rule))=0)=true by decide +kernel))) rfl ?_;refine gx tv25 2 ?_;refine ungd rfl rfl ?_;refine gx tv25 1 ?_;refine ungd rfl rfl ?_;refine call (Fn.le (Hr_ (⟨2,[97,46,35],[],false⟩:Rule) _ []) (Ac_ (ple rfl) (Ac_ (ple rfl) (Ac_ Cy_ C5_))) (ple rfl) rfl) rfl rfl fun w6=>?_;refine so_rt (t:=14) (p':= .bool true) (ple (congrArg PV.bool (show G0_ (⟨2,[97,46,35],[],false⟩:Rule) [97,46,98] []=true by decide +kernel))) rfl ?_;refine gx tv25 2 ?_;refine ungd rfl rfl ?_;refine gx tv25 1 ?_;refine ungd rfl rfl ?_;refine call (Fn.le (Hr_ (⟨2,[97,46,35],[],false⟩:Rule) _ []) (Ac_ (ple rfl) (Ac_ (ple rfl) (Ac_ Cy_ C5_))) (ple rfl) rfl) rfl rfl fun w7=>?_;refine so_rt (t:=18) (p':= .bool false) (ple (congrArg PV.bool (show G0_ (⟨2,[97,46,35],[],false⟩:Rule) [98] []=false by decide +kernel))) rfl ?_;refine ungd rfl rfl ?_;refine gx tv25 1 ?_;refine so_rt (t:=19) (p':= .bool true) (ple (congrArg PV.bool (show !false=true by decide +kernel))) rfl ?_;refine gx tv25 5 ?_;refine rt1 rfl rfl (ple ?_);exact congrArg PV.bool (by first|rfl|decide +kernel)
theorem Rt_:Fn Tryz.prog gb 148 [] (.bool true):=by
  refine fC Tryz.func148 tv25 Tryz.ntmps148 fun w N H hG=>?_;refine gx tv25 7 ?_;refine call Rz_ rfl rfl fun w1=>?_;refine gx tv25 4 ?_;refine rt1 rfl rfl (ple ?_)
  rfl
theorem Sb_:Fn Tryz.prog gb 240 [] (.bool true):=by
  refine fC Tryz.func240 tv25 Tryz.ntmps240 fun w N H hG=>?_;refine gx tv25 8 ?_;refine call (Ja_ (⟨0,[97],[],[],[],0,0⟩:Mail)) rfl rfl fun w1=>?_;have :=En_ (⟨0,[97],[],[],[],0,0⟩:Mail);refine gx tv25 9 ?_;refine call Ln_ rfl rfl fun w2=>?_;refine gx tv25 1 ?_;refine ungd rfl rfl ?_;refine gx tv25 1 ?_;refine ungd rfl rfl ?_;refine gx tv25 1 ?_;refine so_rt (t:=11) (p':= .bool true) (ple (congrArg PV.bool (show decide ((Cm_ (⟨0,[97],[],[],[],0,0⟩:Mail))=0)=true by decide +kernel))) rfl ?_;refine gx tv25 2 ?_;refine ungd rfl rfl ?_;refine gx tv25 1 ?_;refine ungd rfl rfl ?_;refine gx tv25 1 ?_;refine ungd rfl rfl ?_;refine gx tv25 1 ?_;refine so_rt (t:=16) (p':= .bool true) (ple (congrArg PV.bool (show decide (((Bl_ (⟨0,[97],[],[],[],0,0⟩:Mail)).length:Int)=25)=true by decide +kernel))) rfl ?_;refine gx tv25 5 ?_;refine rt1 rfl rfl (ple ?_);exact congrArg PV.bool (by first|rfl|decide +kernel)
theorem Q3_:Fn Tryz.prog gb 213 [] (.bool true):=by
  refine fC Tryz.func213 tv25 Tryz.ntmps213 fun w N H hG=>?_;refine gx tv25 7 ?_;refine call Sb_ rfl rfl fun w1=>?_;refine gx tv25 4 ?_;refine rt1 rfl rfl (ple ?_)
  rfl
theorem cb137:U_ Tryz.prog 137:=Ag_ Tryz.func137 (by kernel_rfl) (by kernel_rfl)
theorem cb176:U_ Tryz.prog 176:=Ag_ Tryz.func176 (by kernel_rfl) (by kernel_rfl)
theorem cb279:U_ Tryz.prog 279:=Ag_ Tryz.func279 (by kernel_rfl) (by kernel_rfl)
theorem cb282:U_ Tryz.prog 282:=Ag_ Tryz.func282 (by kernel_rfl) (by kernel_rfl)
theorem cb92:U_ Tryz.prog 92:=Ag_ Tryz.func92 (by kernel_rfl) (by kernel_rfl)
theorem eqg39:Tryz.prog.eqGuardType Tryz.prog.depth 39=false:=by kernel_rfl
theorem veq39 (p q:LentR):∀ (H:Hp) (vs us:List Value),Sims H (LentR.pc p) vs->Sims H (LentR.pc q) us->EqV Tryz.prog 10000 39 (.agg vs.toArray) (.agg us.toArray) (decide (p=q)):=by
  intro H vs us hv hu;obtain⟨_,_,rfl,v0,v_0⟩:=hv.inv_cons;obtain⟨_,_,rfl,v1,v_1⟩:=v_0.inv_cons
  cases v_1.inv_nil
  cases v0.inv_int.1;cases v1.inv_str.1
  obtain⟨_,_,rfl,u0,u_0⟩:=hu.inv_cons;obtain⟨_,_,rfl,u1,u_1⟩:=u_0.inv_cons
  cases u_1.inv_nil
  cases u0.inv_int.1;cases u1.inv_str.1
  exact EqV.to (Gt_ Tryz.underlying39 (by kernel_rfl) (D8_ (by decide) ag27 rfl rfl (Eo_ Tryz.underlying27) (D8_ (by decide) ag9 rfl rfl (Dp_ Tryz.underlying9) G3_))) (by obtain⟨a0,a1⟩:=p;obtain⟨b0,b1⟩:=q;rw[Bool.eq_iff_iff];simp)
abbrev ty25:TI:=⟨.slc 151,1,24,[.sl I_.pc []]⟩
abbrev ty26:TI:=⟨.slc 39,1,24,[.sl LentR.pc []]⟩
abbrev ty28:TI:=⟨.slc 53,1,24,[.sl DeedR.pc []]⟩
abbrev ty39:TI:=⟨.agg [(0,1),(1,1)],2,24,[.int .u64 0, .str []]⟩
abbrev ty151:TI:=⟨.agg [(0,1),(1,1)],2,24,[.int .u64 0, .str []]⟩
abbrev ty187:TI:=⟨.slc 26,1,24,[.sl (slc LentR.pc) []]⟩
abbrev ty242:TI:=⟨.slc 25,1,24,[.sl (slc I_.pc) []]⟩
abbrev ty280:TI:=⟨.slc 28,1,24,[.sl (slc DeedR.pc) []]⟩
abbrev ty371:TI:=⟨.slc 339,1,24,[.sl (slc ShopR.pc) []]⟩
abbrev ty375:TI:=⟨.slc 340,1,24,[.sl (slc BindR.pc) []]⟩
def tbv40:Tb:=[(3,ty3),(25,ty25),(26,ty26),(28,ty28),(39,ty39),(44,ty44),(49,ty49),(53,ty53),(151,ty151),(187,ty187),(242,ty242),(280,ty280),(339,ty339),(340,Ur_),(371,ty371),(375,ty375)]
theorem tv40:tbB Tryz.prog tbv40=true:=by kernel_rfl
theorem Q7_ (n:Int) (hn:0<=n/\n<=100000000:=by omega):Fo Tryz.prog gb 176 [.val (.slice none 0 0), .int .i64 n] (fun u=> .val u) 29 53 DeedR.pc ([]:List DeedR):=by
  refine Mv_ tv40 Tryz.func176 rfl Tryz.ntmps176 rfl cb176 (fun _=>rfl) rfl fun w N H hG=>?_;refine gx tv40 12 ?_;refine cnd rfl (fun h1=>?_) (fun h1=>?_)
  · have p2:=dt h1
    exfalso;omega
  have p3:=df h1;refine gx tv40 7 ?_;refine q1 (qcap0 tv40 rfl rfl rfl) rfl fun w4=>?_;refine gx tv40 1 ?_;refine q1 (qlen0 tv40 rfl rfl rfl) rfl fun w5=>?_;refine gy tv40 11 ?_;refine cn rfl (fun p7=>?_) fun p13=>?_
  · refine gx tv40 3 ?_;refine q1 (qcap0 tv40 rfl rfl rfl) rfl fun w8=>?_;refine q1 (qcut0 tv40 rfl rfl rfl rfl rfl (by omega)) rfl fun w9=>?_;refine gx tv40 1 ?_;refine ef (appz (m:=((n-(0-0))).toNat) 0 tv40 rfl rfl rfl rfl rfl rfl rfl rfl rfl rfl (by omega) (by omega) (by (try simp only[]);omega) rfl rfl fun u10=>?_);refine gx tv40 1 ?_;refine q1 (qlen0 tv40 rfl rfl rfl) rfl fun w11=>?_;refine ef (ocut DeedR.pc tv40 rfl rfl rfl rfl rfl rfl (by omega) rfl fun u12=>?_);refine gx tv40 9 ?_;refine sw_val (t:=4) (i:=0) rfl rfl ?_;refine gx tv40 1 ?_;refine ro1 (j:=0) rfl rfl rfl ?_
    rfl
  refine gx tv40 8 ?_;refine sw_own (t:=4) (k:=29) (e:=53) 0 DeedR.pc rfl rfl ?_;refine sw_val (t:=4) (i:=0) rfl rfl ?_;refine gx tv40 1 ?_;refine ro1 (j:=0) rfl rfl rfl ?_
  rfl
theorem Mm_ (ls:List (List DeedR)) (hl:ls.flatten.length<=100000000:=by first|omega|(simp;done)|(simp;omega)|(simp only[List.flatten_cons,List.flatten_nil,List.length_append,List.append_nil];simp;omega)):Fn Tryz.prog gb 140 [.sl (slc DeedR.pc) ls] (.sl DeedR.pc ls.flatten):=by
  refine fC Tryz.func140 tv40 Tryz.ntmps140 fun w N H hG=>?_;have ls_l:ls.length<=140737488355328:=w.1.1;refine gx tv40 19 ?_;refine loop (ι:=Nat×Int) [0,2,9,10] [] (fun ⟨k,n⟩=>[(3, .int .i64 n),(11, .int .i64 (k:Int))]) (fun ⟨k,n⟩=>[]) (fun ⟨k,n⟩=>k<=ls.length/\n=((ls.take k).flatten.length:Int)) (fun ⟨k,n⟩=>ls.length-k) ⟨0,0⟩ ⟨rfl,rfl,trivial⟩ trivial ?_ ?_
  · exact⟨Nat.zero_le _,by simp⟩
  rintro⟨k,n⟩ hp1;obtain⟨hk1,hk2⟩:=hp1;have hg0:=As_ ls k;refine gx tv40 6 ?_;refine cn rfl (fun p3=>?_) fun p10=>?_
  · obtain⟨c4,hc5⟩:=getE (xs:=ls) (m:=k) (by omega);refine gx tv40 6 ?_;refine q1 (qidx tv40 k rfl rfl rfl hc5 rfl rfl rfl rfl) rfl fun w6=>?_;refine go tv40 19 rfl rfl ⟨(by have hg:=As_ ls (k+1);have hfl:=congrArg List.length (O_ (by assumption :ls[k]? = some _));simp only[List.length_append] at hfl;omega),trivial⟩ ?_;refine cnd rfl (fun h7=>?_) (fun h7=>?_)
    · have p8:=dt h7
      exfalso;omega
    have p9:=df h7;refine go tv40 7 rfl rfl ⟨(by have hg:=As_ ls (k+1);have hfl:=congrArg List.length (O_ (by assumption :ls[k]? = some _));simp only[List.length_append] at hfl;omega),trivial⟩ ?_;refine next ⟨(k+1),(n+(c4.length:Int))⟩ rfl rfl ⟨rfl,rfl,trivial⟩ trivial ?_ ?_
    · (try simp only[]);omega
    have hf:=O_ hc5;have hg:=As_ ls (k+1);have hfl:=congrArg List.length hf
    simp only[List.length_append] at hfl
    exact⟨by omega,by (try simp only[]);omega⟩
  refine gx tv40 8 ?_;refine ef (ecallo 0 (Q7_ _) rfl rfl fun u12 w11=>?_);refine gx tv40 12 ?_;refine sw_osl (t:=6) 0 rfl rfl ?_;refine loop (ι:=Nat×(List DeedR)×Value) [0,2,3,9,10,11,12,23,24,25,26] [] (fun ⟨k,out,u_out⟩=>[(6, .osl 0),(27, .int .i64 (k:Int))]) (fun ⟨k,out,u_out⟩=>[(0, .arr u_out 29 53 DeedR.pc out)]) (fun ⟨k,out,u_out⟩=>k<=ls.length/\out=(ls.take k).flatten) (fun ⟨k,out,u_out⟩=>ls.length-k) ⟨0,([]:List DeedR),(u12)⟩ ⟨rfl,rfl,trivial⟩ ⟨rfl,trivial⟩ ?_ ?_
  · exact⟨Nat.zero_le _,by simp⟩
  rintro⟨k,out,u_out⟩ hp13;obtain⟨hk1,hk2⟩:=hp13;refine gx tv40 6 ?_;refine cn rfl (fun p15=>?_) fun p20=>?_
  · obtain⟨c16,hc17⟩:=getE (xs:=ls) (m:=k) (by omega);refine gx tv40 6 ?_;refine q1 (qidx tv40 k rfl rfl rfl hc17 rfl rfl rfl rfl) rfl fun w18=>?_;refine gx tv40 7 ?_;refine ef (app tv40 c16 rfl rfl rfl rfl rfl rfl rfl rfl rfl (src_l rfl (fun _=>rfl)) (by have hg:=As_ ls (k+1);have hfl:=congrArg List.length (O_ (by assumption :ls[k]? = some _));simp only[List.length_append] at hfl;subst hk2;(try simp only[]);omega) rfl fun u19=>?_);refine go tv40 8 rfl rfl ⟨(by have hg:=As_ ls (k+1);have hfl:=congrArg List.length (O_ (by assumption :ls[k]? = some _));simp only[List.length_append] at hfl;omega),trivial⟩ ?_;refine next ⟨(k+1),(out++c16),(u19)⟩ rfl rfl ⟨rfl,rfl,trivial⟩ ⟨rfl,trivial⟩ ?_ ?_
    · (try simp only[]);omega
    exact⟨by omega,by (try simp only[]);rw[O_ hc17,hk2]⟩
  refine gx tv40 11 ?_;refine givec 0 rfl ?_;refine gx tv40 1 ?_;refine rt1 rfl rfl (ple ?_)
  rw[hk2,Eu_ (by omega)]
theorem Q5_ (s:List DeedR) (f:FuncId) (f_fst f_cap:List PV) (f_p:DeedR->Bool) (f_h:∀ x,Fn Tryz.prog gb f (argsP.apL f_fst ((.agg (DeedR.pc x))::f_cap)) (.bool (f_p x))):Fn Tryz.prog gb 134 [.sl DeedR.pc s, .fn f f_fst f_cap] (.int .i64 (idxP f_p s)):=by
  refine fC Tryz.func134 tv40 Tryz.ntmps134 fun w N H hG=>?_;have s_l:s.length<=140737488355328:=w.1.1;refine gx tv40 14 ?_;refine loop (ι:=Nat) [0,1,6,7] [] (fun k=>[(8, .int .i64 (k:Int))]) (fun k=>[]) (fun k=>k<=s.length/\idxP f_p s=idxF f_p k (s.drop k)) (fun k=>s.length-k) 0 ⟨rfl,trivial⟩ trivial ?_ ?_
  · exact⟨Nat.zero_le _,rfl⟩
  rintro k hp1;obtain⟨hk1,hk2⟩:=hp1;refine gx tv40 6 ?_;refine cnd rfl (fun h2=>?_) (fun h2=>?_)
  · have p3:=dt h2;obtain⟨c4,hc5⟩:=getE (xs:=s) (m:=k) (by omega);have c4_w:=DeedR.pwf (w.1.2 c4 (List.mem_of_getElem? hc5));refine gx tv40 15 ?_;refine q1 (qidx tv40 k rfl rfl rfl hc5 rfl rfl rfl rfl) rfl fun w6=>?_;refine gx tv40 1 ?_;refine call (f_h c4) rfl rfl fun w7=>?_;refine gx tv40 2 ?_;refine cnd rfl (fun h8=>?_) (fun h8=>?_)
    · refine gx tv40 12 ?_;refine rt1 rfl rfl (ple ?_);exact congrArg (PV.int .i64) (Gu_ hk2 (Aw_ hc5) (by assumption)).symm
    refine gy tv40 7 ?_;refine next (k+1) rfl rfl ⟨rfl,trivial⟩ trivial ?_ ?_
    · omega
    exact⟨by omega,Fd_ hk2 (Aw_ hc5) (by assumption)⟩
  have p9:=df h2;refine gx tv40 11 ?_;refine rt1 rfl rfl (ple ?_);exact congrArg (PV.int .i64) (Gm_ hk2 (by omega)).symm
theorem cF_Deed (s:List DeedR) (f:FuncId) (f_fst f_cap:List PV) (f_p:DeedR->Bool) (f_h:∀ x,Fn Tryz.prog gb f (argsP.apL f_fst ((.agg (DeedR.pc x))::f_cap)) (.bool (f_p x))):Fn Tryz.prog gb 93 [.sl DeedR.pc s, .fn f f_fst f_cap] (.bool (decide (0<=idxP f_p s))):=by
  refine fC Tryz.func93 tv40 Tryz.ntmps93 fun w N H hG=>?_;refine gx tv40 9 ?_;refine call (Q5_ _ f f_fst f_cap f_p f_h) rfl rfl fun w1=>?_;have hix1:=G9_ f_p s;refine gx tv40 5 ?_;refine rt1 rfl rfl (ple ?_)
  rfl
theorem Ov_ (n:Int) (hn:0<=n/\n<=100000000:=by omega):Fo Tryz.prog gb 137 [.val (.slice none 0 0), .int .i64 n] (fun u=> .val u) 2 151 I_.pc ([]:List I_):=by
  refine Mv_ tv40 Tryz.func137 rfl Tryz.ntmps137 rfl cb137 (fun _=>rfl) rfl fun w N H hG=>?_;refine gx tv40 12 ?_;refine cnd rfl (fun h1=>?_) (fun h1=>?_)
  · have p2:=dt h1
    exfalso;omega
  have p3:=df h1;refine gx tv40 7 ?_;refine q1 (qcap0 tv40 rfl rfl rfl) rfl fun w4=>?_;refine gx tv40 1 ?_;refine q1 (qlen0 tv40 rfl rfl rfl) rfl fun w5=>?_;refine gy tv40 11 ?_;refine cn rfl (fun p7=>?_) fun p13=>?_
  · refine gx tv40 3 ?_;refine q1 (qcap0 tv40 rfl rfl rfl) rfl fun w8=>?_;refine q1 (qcut0 tv40 rfl rfl rfl rfl rfl (by omega)) rfl fun w9=>?_;refine gx tv40 1 ?_;refine ef (appz (m:=((n-(0-0))).toNat) 0 tv40 rfl rfl rfl rfl rfl rfl rfl rfl rfl rfl (by omega) (by omega) (by (try simp only[]);omega) rfl rfl fun u10=>?_);refine gx tv40 1 ?_;refine q1 (qlen0 tv40 rfl rfl rfl) rfl fun w11=>?_;refine ef (ocut I_.pc tv40 rfl rfl rfl rfl rfl rfl (by omega) rfl fun u12=>?_);refine gx tv40 9 ?_;refine sw_val (t:=4) (i:=0) rfl rfl ?_;refine gx tv40 1 ?_;refine ro1 (j:=0) rfl rfl rfl ?_
    rfl
  refine gx tv40 8 ?_;refine sw_own (t:=4) (k:=2) (e:=151) 0 I_.pc rfl rfl ?_;refine sw_val (t:=4) (i:=0) rfl rfl ?_;refine gx tv40 1 ?_;refine ro1 (j:=0) rfl rfl rfl ?_
  rfl
theorem Hc_ (ls:List (List I_)) (hl:ls.flatten.length<=100000000:=by first|omega|(simp;done)|(simp;omega)|(simp only[List.flatten_cons,List.flatten_nil,List.length_append,List.append_nil];simp;omega)):Fn Tryz.prog gb 96 [.sl (slc I_.pc) ls] (.sl I_.pc ls.flatten):=by
  refine fC Tryz.func96 tv40 Tryz.ntmps96 fun w N H hG=>?_;have ls_l:ls.length<=140737488355328:=w.1.1;refine gx tv40 19 ?_;refine loop (ι:=Nat×Int) [0,2,9,10] [] (fun ⟨k,n⟩=>[(3, .int .i64 n),(11, .int .i64 (k:Int))]) (fun ⟨k,n⟩=>[]) (fun ⟨k,n⟩=>k<=ls.length/\n=((ls.take k).flatten.length:Int)) (fun ⟨k,n⟩=>ls.length-k) ⟨0,0⟩ ⟨rfl,rfl,trivial⟩ trivial ?_ ?_
  · exact⟨Nat.zero_le _,by simp⟩
  rintro⟨k,n⟩ hp1;obtain⟨hk1,hk2⟩:=hp1;have hg0:=As_ ls k;refine gx tv40 6 ?_;refine cn rfl (fun p3=>?_) fun p10=>?_
  · obtain⟨c4,hc5⟩:=getE (xs:=ls) (m:=k) (by omega);refine gx tv40 6 ?_;refine q1 (qidx tv40 k rfl rfl rfl hc5 rfl rfl rfl rfl) rfl fun w6=>?_;refine go tv40 19 rfl rfl ⟨(by have hg:=As_ ls (k+1);have hfl:=congrArg List.length (O_ (by assumption :ls[k]? = some _));simp only[List.length_append] at hfl;omega),trivial⟩ ?_;refine cnd rfl (fun h7=>?_) (fun h7=>?_)
    · have p8:=dt h7
      exfalso;omega
    have p9:=df h7;refine go tv40 7 rfl rfl ⟨(by have hg:=As_ ls (k+1);have hfl:=congrArg List.length (O_ (by assumption :ls[k]? = some _));simp only[List.length_append] at hfl;omega),trivial⟩ ?_;refine next ⟨(k+1),(n+(c4.length:Int))⟩ rfl rfl ⟨rfl,rfl,trivial⟩ trivial ?_ ?_
    · (try simp only[]);omega
    have hf:=O_ hc5;have hg:=As_ ls (k+1);have hfl:=congrArg List.length hf
    simp only[List.length_append] at hfl
    exact⟨by omega,by (try simp only[]);omega⟩
  refine gx tv40 8 ?_;refine ef (ecallo 0 (Ov_ _) rfl rfl fun u12 w11=>?_);refine gx tv40 12 ?_;refine sw_osl (t:=6) 0 rfl rfl ?_;refine loop (ι:=Nat×(List I_)×Value) [0,2,3,9,10,11,12,23,24,25,26] [] (fun ⟨k,out,u_out⟩=>[(6, .osl 0),(27, .int .i64 (k:Int))]) (fun ⟨k,out,u_out⟩=>[(0, .arr u_out 2 151 I_.pc out)]) (fun ⟨k,out,u_out⟩=>k<=ls.length/\out=(ls.take k).flatten) (fun ⟨k,out,u_out⟩=>ls.length-k) ⟨0,([]:List I_),(u12)⟩ ⟨rfl,rfl,trivial⟩ ⟨rfl,trivial⟩ ?_ ?_
  · exact⟨Nat.zero_le _,by simp⟩
  rintro⟨k,out,u_out⟩ hp13;obtain⟨hk1,hk2⟩:=hp13;refine gx tv40 6 ?_;refine cn rfl (fun p15=>?_) fun p20=>?_
  · obtain⟨c16,hc17⟩:=getE (xs:=ls) (m:=k) (by omega);refine gx tv40 6 ?_;refine q1 (qidx tv40 k rfl rfl rfl hc17 rfl rfl rfl rfl) rfl fun w18=>?_;refine gx tv40 7 ?_;refine ef (app tv40 c16 rfl rfl rfl rfl rfl rfl rfl rfl rfl (src_l rfl (fun _=>rfl)) (by have hg:=As_ ls (k+1);have hfl:=congrArg List.length (O_ (by assumption :ls[k]? = some _));simp only[List.length_append] at hfl;subst hk2;(try simp only[]);omega) rfl fun u19=>?_);refine go tv40 8 rfl rfl ⟨(by have hg:=As_ ls (k+1);have hfl:=congrArg List.length (O_ (by assumption :ls[k]? = some _));simp only[List.length_append] at hfl;omega),trivial⟩ ?_;refine next ⟨(k+1),(out++c16),(u19)⟩ rfl rfl ⟨rfl,rfl,trivial⟩ ⟨rfl,trivial⟩ ?_ ?_
    · (try simp only[]);omega
    exact⟨by omega,by (try simp only[]);rw[O_ hc17,hk2]⟩
  refine gx tv40 11 ?_;refine givec 0 rfl ?_;refine gx tv40 1 ?_;refine rt1 rfl rfl (ple ?_)
  rw[hk2,Eu_ (by omega)]
theorem Ph_ (s:List I_) (f:FuncId) (f_fst f_cap:List PV) (f_p:I_->Bool) (f_h:∀ x,Fn Tryz.prog gb f (argsP.apL f_fst ((.agg (I_.pc x))::f_cap)) (.bool (f_p x))):Fn Tryz.prog gb 135 [.sl I_.pc s, .fn f f_fst f_cap] (.int .i64 (idxP f_p s)):=by
  refine fC Tryz.func135 tv40 Tryz.ntmps135 fun w N H hG=>?_;have s_l:s.length<=140737488355328:=w.1.1;refine gx tv40 14 ?_;refine loop (ι:=Nat) [0,1,6,7] [] (fun k=>[(8, .int .i64 (k:Int))]) (fun k=>[]) (fun k=>k<=s.length/\idxP f_p s=idxF f_p k (s.drop k)) (fun k=>s.length-k) 0 ⟨rfl,trivial⟩ trivial ?_ ?_
  · exact⟨Nat.zero_le _,rfl⟩
  rintro k hp1;obtain⟨hk1,hk2⟩:=hp1;refine gx tv40 6 ?_;refine cnd rfl (fun h2=>?_) (fun h2=>?_)
  · have p3:=dt h2;obtain⟨c4,hc5⟩:=getE (xs:=s) (m:=k) (by omega);refine gx tv40 15 ?_;refine q1 (qidx tv40 k rfl rfl rfl hc5 rfl rfl rfl rfl) rfl fun w6=>?_;refine gx tv40 1 ?_;refine call (f_h c4) rfl rfl fun w7=>?_;refine gx tv40 2 ?_;refine cnd rfl (fun h8=>?_) (fun h8=>?_)
    · refine gx tv40 12 ?_;refine rt1 rfl rfl (ple ?_);exact congrArg (PV.int .i64) (Gu_ hk2 (Aw_ hc5) (by assumption)).symm
    refine gy tv40 7 ?_;refine next (k+1) rfl rfl ⟨rfl,trivial⟩ trivial ?_ ?_
    · omega
    exact⟨by omega,Fd_ hk2 (Aw_ hc5) (by assumption)⟩
  have p9:=df h2;refine gx tv40 11 ?_;refine rt1 rfl rfl (ple ?_);exact congrArg (PV.int .i64) (Gm_ hk2 (by omega)).symm
theorem Rm_ (n:Int) (hn:0<=n/\n<=100000000:=by omega):Fo Tryz.prog gb 92 [.val (.slice none 0 0), .int .i64 n] (fun u=> .val u) 2 39 LentR.pc ([]:List LentR):=by
  refine Mv_ tv40 Tryz.func92 rfl Tryz.ntmps92 rfl cb92 (fun _=>rfl) rfl fun w N H hG=>?_;refine gx tv40 12 ?_;refine cnd rfl (fun h1=>?_) (fun h1=>?_)
  · have p2:=dt h1
    exfalso;omega
  have p3:=df h1;refine gx tv40 7 ?_;refine q1 (qcap0 tv40 rfl rfl rfl) rfl fun w4=>?_;refine gx tv40 1 ?_;refine q1 (qlen0 tv40 rfl rfl rfl) rfl fun w5=>?_;refine gy tv40 11 ?_;refine cn rfl (fun p7=>?_) fun p13=>?_
  · refine gx tv40 3 ?_;refine q1 (qcap0 tv40 rfl rfl rfl) rfl fun w8=>?_;refine q1 (qcut0 tv40 rfl rfl rfl rfl rfl (by omega)) rfl fun w9=>?_;refine gx tv40 1 ?_;refine ef (appz (m:=((n-(0-0))).toNat) 0 tv40 rfl rfl rfl rfl rfl rfl rfl rfl rfl rfl (by omega) (by omega) (by (try simp only[]);omega) rfl rfl fun u10=>?_);refine gx tv40 1 ?_;refine q1 (qlen0 tv40 rfl rfl rfl) rfl fun w11=>?_;refine ef (ocut LentR.pc tv40 rfl rfl rfl rfl rfl rfl (by omega) rfl fun u12=>?_);refine gx tv40 9 ?_;refine sw_val (t:=4) (i:=0) rfl rfl ?_;refine gx tv40 1 ?_;refine ro1 (j:=0) rfl rfl rfl ?_
    rfl
  refine gx tv40 8 ?_;refine sw_own (t:=4) (k:=2) (e:=39) 0 LentR.pc rfl rfl ?_;refine sw_val (t:=4) (i:=0) rfl rfl ?_;refine gx tv40 1 ?_;refine ro1 (j:=0) rfl rfl rfl ?_
  rfl
theorem Ik_ (ls:List (List LentR)) (hl:ls.flatten.length<=100000000:=by first|omega|(simp;done)|(simp;omega)|(simp only[List.flatten_cons,List.flatten_nil,List.length_append,List.append_nil];simp;omega)):Fn Tryz.prog gb 40 [.sl (slc LentR.pc) ls] (.sl LentR.pc ls.flatten):=by
  refine fC Tryz.func40 tv40 Tryz.ntmps40 fun w N H hG=>?_;have ls_l:ls.length<=140737488355328:=w.1.1;refine gx tv40 19 ?_;refine loop (ι:=Nat×Int) [0,2,9,10] [] (fun ⟨k,n⟩=>[(3, .int .i64 n),(11, .int .i64 (k:Int))]) (fun ⟨k,n⟩=>[]) (fun ⟨k,n⟩=>k<=ls.length/\n=((ls.take k).flatten.length:Int)) (fun ⟨k,n⟩=>ls.length-k) ⟨0,0⟩ ⟨rfl,rfl,trivial⟩ trivial ?_ ?_
  · exact⟨Nat.zero_le _,by simp⟩
  rintro⟨k,n⟩ hp1;obtain⟨hk1,hk2⟩:=hp1;have hg0:=As_ ls k;refine gx tv40 6 ?_;refine cn rfl (fun p3=>?_) fun p10=>?_
  · obtain⟨c4,hc5⟩:=getE (xs:=ls) (m:=k) (by omega);refine gx tv40 6 ?_;refine q1 (qidx tv40 k rfl rfl rfl hc5 rfl rfl rfl rfl) rfl fun w6=>?_;refine go tv40 19 rfl rfl ⟨(by have hg:=As_ ls (k+1);have hfl:=congrArg List.length (O_ (by assumption :ls[k]? = some _));simp only[List.length_append] at hfl;omega),trivial⟩ ?_;refine cnd rfl (fun h7=>?_) (fun h7=>?_)
    · have p8:=dt h7
      exfalso;omega
    have p9:=df h7;refine go tv40 7 rfl rfl ⟨(by have hg:=As_ ls (k+1);have hfl:=congrArg List.length (O_ (by assumption :ls[k]? = some _));simp only[List.length_append] at hfl;omega),trivial⟩ ?_;refine next ⟨(k+1),(n+(c4.length:Int))⟩ rfl rfl ⟨rfl,rfl,trivial⟩ trivial ?_ ?_
    · (try simp only[]);omega
    have hf:=O_ hc5;have hg:=As_ ls (k+1);have hfl:=congrArg List.length hf
    simp only[List.length_append] at hfl
    exact⟨by omega,by (try simp only[]);omega⟩
  refine gx tv40 8 ?_;refine ef (ecallo 0 (Rm_ _) rfl rfl fun u12 w11=>?_);refine gx tv40 12 ?_;refine sw_osl (t:=6) 0 rfl rfl ?_;refine loop (ι:=Nat×(List LentR)×Value) [0,2,3,9,10,11,12,23,24,25,26] [] (fun ⟨k,out,u_out⟩=>[(6, .osl 0),(27, .int .i64 (k:Int))]) (fun ⟨k,out,u_out⟩=>[(0, .arr u_out 2 39 LentR.pc out)]) (fun ⟨k,out,u_out⟩=>k<=ls.length/\out=(ls.take k).flatten) (fun ⟨k,out,u_out⟩=>ls.length-k) ⟨0,([]:List LentR),(u12)⟩ ⟨rfl,rfl,trivial⟩ ⟨rfl,trivial⟩ ?_ ?_
  · exact⟨Nat.zero_le _,by simp⟩
  rintro⟨k,out,u_out⟩ hp13;obtain⟨hk1,hk2⟩:=hp13;refine gx tv40 6 ?_;refine cn rfl (fun p15=>?_) fun p20=>?_
  · obtain⟨c16,hc17⟩:=getE (xs:=ls) (m:=k) (by omega);refine gx tv40 6 ?_;refine q1 (qidx tv40 k rfl rfl rfl hc17 rfl rfl rfl rfl) rfl fun w18=>?_;refine gx tv40 7 ?_;refine ef (app tv40 c16 rfl rfl rfl rfl rfl rfl rfl rfl rfl (src_l rfl (fun _=>rfl)) (by have hg:=As_ ls (k+1);have hfl:=congrArg List.length (O_ (by assumption :ls[k]? = some _));simp only[List.length_append] at hfl;subst hk2;(try simp only[]);omega) rfl fun u19=>?_);refine go tv40 8 rfl rfl ⟨(by have hg:=As_ ls (k+1);have hfl:=congrArg List.length (O_ (by assumption :ls[k]? = some _));simp only[List.length_append] at hfl;omega),trivial⟩ ?_;refine next ⟨(k+1),(out++c16),(u19)⟩ rfl rfl ⟨rfl,rfl,trivial⟩ ⟨rfl,trivial⟩ ?_ ?_
    · (try simp only[]);omega
    exact⟨by omega,by (try simp only[]);rw[O_ hc17,hk2]⟩
  refine gx tv40 11 ?_;refine givec 0 rfl ?_;refine gx tv40 1 ?_;refine rt1 rfl rfl (ple ?_)
  rw[hk2,Eu_ (by omega)]
theorem Ps_ (s:List LentR) (hl:s.length<=100000000:=by first|omega|(simp;done)|(simp;omega)):Fn Tryz.prog gb 60 [.sl LentR.pc s] (.sl LentR.pc s):=by
  refine fC Tryz.func60 tv40 Tryz.ntmps60 fun w N H hG=>?_;refine gx tv40 9 ?_;refine ef (lnil tv40 rfl rfl rfl rfl rfl fun b1 hb2=>?_);refine gx tv40 2 ?_;refine cnd rfl (fun h3=>?_) (fun h3=>?_)
  · refine gx tv40 7 ?_;refine rt1 rfl rfl ?_;refine Hg_ ?_;exact hb2 (by assumption)
  refine gx tv40 4 ?_;refine ef (bsl 0 LentR.pc [] tv40 rfl rfl rfl rfl rfl (fun _=>rfl) rfl (by decide) (by decide) rfl fun u4=>?_);refine gx tv40 1 ?_;refine ef (app tv40 s rfl rfl rfl rfl rfl rfl rfl rfl rfl (src_l rfl (fun _=>rfl)) (by first|omega|(simp;omega)) rfl fun u5=>?_);refine gx tv40 3 ?_;refine givec 0 rfl ?_;refine gx tv40 1 ?_;refine rt1 rfl rfl (ple ?_)
  simp
theorem Pq_ (l:List LentR) (x:LentR):Fn Tryz.prog gb 42 [.sl LentR.pc l, .agg (LentR.pc x)] (.int .i64 (idxP (fun y=>decide (x=y)) l)):=by
  refine fC Tryz.func42 tv40 Tryz.ntmps42 fun w N H hG=>?_;have l_l:l.length<=140737488355328:=w.1.1;refine gm tv40 15 [0] fun B2=>?_;refine loop (ι:=Nat) [0,1,3,6,7] [0] (fun k=>[(8, .int .i64 (k:Int))]) (fun k=>[]) (fun k=>k<=l.length/\idxP (fun y=>decide (x=y)) l=idxF (fun y=>decide (x=y)) k (l.drop k)) (fun k=>l.length-k) 0 ⟨rfl,trivial⟩ trivial ?_ ?_
  · exact⟨Nat.zero_le _,rfl⟩
  rintro k hp3;obtain⟨hik1,hik2⟩:=hp3;refine gx tv40 6 ?_;refine cn rfl (fun p5=>?_) fun p13=>?_
  · refine gx tv40 11 ?_;refine aN [1,2,3,4,5,6] 6 mixd ?_;refine gX tv40 [0,1,2] 3 ?_;obtain⟨c6,hc7⟩:=getE (xs:=l) (m:=k) (by omega);refine vq 3 (qidx tv40 k rfl rfl rfl hc7 rfl rfl rfl rfl) rfl (by kernel_rfl) rfl fun w8=>?_;refine gX tv40 [4] 1 ?_;refine vq 5 (saeq rfl rfl eqg39 (veq39 x c6)) rfl (by kernel_rfl) rfl fun w9=>?_;refine vD ?_;refine gx tv40 1 ?_;refine cn rfl (fun p11=>?_) fun p12=>?_
    · refine gx tv40 12 ?_;refine rt1 rfl rfl (ple ?_);exact congrArg (PV.int .i64) (Gu_ hik2 (Aw_ hc7) (by first|assumption|(simp[*];done))).symm
    refine gy tv40 7 ?_;refine next (k+1) rfl rfl ⟨rfl,trivial⟩ trivial ?_ ?_
    · omega
    exact⟨by omega,Fd_ hik2 (Aw_ hc7) (by first|assumption|(simp[*];done)|grind)⟩
  refine gx tv40 11 ?_;refine rt1 rfl rfl (ple ?_);exact congrArg (PV.int .i64) (Gm_ hik2 (by omega)).symm
theorem Sc_ (n:Int) (hn:0<=n/\n<=100000000:=by omega):Fo Tryz.prog gb 279 [.val (.slice none 0 0), .int .i64 n] (fun u=> .val u) 3 44 ShopR.pc ([]:List ShopR):=by
  refine Mv_ tv40 Tryz.func279 rfl Tryz.ntmps279 rfl cb279 (fun _=>rfl) rfl fun w N H hG=>?_;refine gx tv40 12 ?_;refine cnd rfl (fun h1=>?_) (fun h1=>?_)
  · have p2:=dt h1
    exfalso;omega
  have p3:=df h1;refine gx tv40 7 ?_;refine q1 (qcap0 tv40 rfl rfl rfl) rfl fun w4=>?_;refine gx tv40 1 ?_;refine q1 (qlen0 tv40 rfl rfl rfl) rfl fun w5=>?_;refine gy tv40 11 ?_;refine cn rfl (fun p7=>?_) fun p13=>?_
  · refine gx tv40 3 ?_;refine q1 (qcap0 tv40 rfl rfl rfl) rfl fun w8=>?_;refine q1 (qcut0 tv40 rfl rfl rfl rfl rfl (by omega)) rfl fun w9=>?_;refine gx tv40 1 ?_;refine ef (appz (m:=((n-(0-0))).toNat) 0 tv40 rfl rfl rfl rfl rfl rfl rfl rfl rfl rfl (by omega) (by omega) (by (try simp only[]);omega) rfl rfl fun u10=>?_);refine gx tv40 1 ?_;refine q1 (qlen0 tv40 rfl rfl rfl) rfl fun w11=>?_;refine ef (ocut ShopR.pc tv40 rfl rfl rfl rfl rfl rfl (by omega) rfl fun u12=>?_);refine gx tv40 9 ?_;refine sw_val (t:=4) (i:=0) rfl rfl ?_;refine gx tv40 1 ?_;refine ro1 (j:=0) rfl rfl rfl ?_
    rfl
  refine gx tv40 8 ?_;refine sw_own (t:=4) (k:=3) (e:=44) 0 ShopR.pc rfl rfl ?_;refine sw_val (t:=4) (i:=0) rfl rfl ?_;refine gx tv40 1 ?_;refine ro1 (j:=0) rfl rfl rfl ?_
  rfl
theorem Mx_ (ls:List (List ShopR)) (hl:ls.flatten.length<=100000000:=by first|omega|(simp;done)|(simp;omega)|(simp only[List.flatten_cons,List.flatten_nil,List.length_append,List.append_nil];simp;omega)):Fn Tryz.prog gb 268 [.sl (slc ShopR.pc) ls] (.sl ShopR.pc ls.flatten):=by
  refine fC Tryz.func268 tv40 Tryz.ntmps268 fun w N H hG=>?_;have ls_l:ls.length<=140737488355328:=w.1.1;refine gx tv40 19 ?_;refine loop (ι:=Nat×Int) [0,2,9,10] [] (fun ⟨k,n⟩=>[(3, .int .i64 n),(11, .int .i64 (k:Int))]) (fun ⟨k,n⟩=>[]) (fun ⟨k,n⟩=>k<=ls.length/\n=((ls.take k).flatten.length:Int)) (fun ⟨k,n⟩=>ls.length-k) ⟨0,0⟩ ⟨rfl,rfl,trivial⟩ trivial ?_ ?_
  · exact⟨Nat.zero_le _,by simp⟩
  rintro⟨k,n⟩ hp1;obtain⟨hk1,hk2⟩:=hp1;have hg0:=As_ ls k;refine gx tv40 6 ?_;refine cn rfl (fun p3=>?_) fun p10=>?_
  · obtain⟨c4,hc5⟩:=getE (xs:=ls) (m:=k) (by omega);refine gx tv40 6 ?_;refine q1 (qidx tv40 k rfl rfl rfl hc5 rfl rfl rfl rfl) rfl fun w6=>?_;refine go tv40 19 rfl rfl ⟨(by have hg:=As_ ls (k+1);have hfl:=congrArg List.length (O_ (by assumption :ls[k]? = some _));simp only[List.length_append] at hfl;omega),trivial⟩ ?_;refine cnd rfl (fun h7=>?_) (fun h7=>?_)
    · have p8:=dt h7
      exfalso;omega
    have p9:=df h7;refine go tv40 7 rfl rfl ⟨(by have hg:=As_ ls (k+1);have hfl:=congrArg List.length (O_ (by assumption :ls[k]? = some _));simp only[List.length_append] at hfl;omega),trivial⟩ ?_;refine next ⟨(k+1),(n+(c4.length:Int))⟩ rfl rfl ⟨rfl,rfl,trivial⟩ trivial ?_ ?_
    · (try simp only[]);omega
    have hf:=O_ hc5;have hg:=As_ ls (k+1);have hfl:=congrArg List.length hf
    simp only[List.length_append] at hfl
    exact⟨by omega,by (try simp only[]);omega⟩
  refine gx tv40 8 ?_;refine ef (ecallo 0 (Sc_ _) rfl rfl fun u12 w11=>?_);refine gx tv40 12 ?_;refine sw_osl (t:=6) 0 rfl rfl ?_;refine loop (ι:=Nat×(List ShopR)×Value) [0,2,3,9,10,11,12,23,24,25,26] [] (fun ⟨k,out,u_out⟩=>[(6, .osl 0),(27, .int .i64 (k:Int))]) (fun ⟨k,out,u_out⟩=>[(0, .arr u_out 3 44 ShopR.pc out)]) (fun ⟨k,out,u_out⟩=>k<=ls.length/\out=(ls.take k).flatten) (fun ⟨k,out,u_out⟩=>ls.length-k) ⟨0,([]:List ShopR),(u12)⟩ ⟨rfl,rfl,trivial⟩ ⟨rfl,trivial⟩ ?_ ?_
  · exact⟨Nat.zero_le _,by simp⟩
  rintro⟨k,out,u_out⟩ hp13;obtain⟨hk1,hk2⟩:=hp13;refine gx tv40 6 ?_;refine cn rfl (fun p15=>?_) fun p20=>?_
  · obtain⟨c16,hc17⟩:=getE (xs:=ls) (m:=k) (by omega);refine gx tv40 6 ?_;refine q1 (qidx tv40 k rfl rfl rfl hc17 rfl rfl rfl rfl) rfl fun w18=>?_;refine gx tv40 7 ?_;refine ef (app tv40 c16 rfl rfl rfl rfl rfl rfl rfl rfl rfl (src_l rfl (fun _=>rfl)) (by have hg:=As_ ls (k+1);have hfl:=congrArg List.length (O_ (by assumption :ls[k]? = some _));simp only[List.length_append] at hfl;subst hk2;(try simp only[]);omega) rfl fun u19=>?_);refine go tv40 8 rfl rfl ⟨(by have hg:=As_ ls (k+1);have hfl:=congrArg List.length (O_ (by assumption :ls[k]? = some _));simp only[List.length_append] at hfl;omega),trivial⟩ ?_;refine next ⟨(k+1),(out++c16),(u19)⟩ rfl rfl ⟨rfl,rfl,trivial⟩ ⟨rfl,trivial⟩ ?_ ?_
    · (try simp only[]);omega
    exact⟨by omega,by (try simp only[]);rw[O_ hc17,hk2]⟩
  refine gx tv40 11 ?_;refine givec 0 rfl ?_;refine gx tv40 1 ?_;refine rt1 rfl rfl (ple ?_)
  rw[hk2,Eu_ (by omega)]
theorem Tl_ (n:Int) (hn:0<=n/\n<=100000000:=by omega):Fo Tryz.prog gb 282 [.val (.slice none 0 0), .int .i64 n] (fun u=> .val u) 6 49 BindR.pc ([]:List BindR):=by
  refine Mv_ tv40 Tryz.func282 rfl Tryz.ntmps282 rfl cb282 (fun _=>rfl) rfl fun w N H hG=>?_;refine gx tv40 12 ?_;refine cnd rfl (fun h1=>?_) (fun h1=>?_)
  · have p2:=dt h1
    exfalso;omega
  have p3:=df h1;refine gx tv40 7 ?_;refine q1 (qcap0 tv40 rfl rfl rfl) rfl fun w4=>?_;refine gx tv40 1 ?_;refine q1 (qlen0 tv40 rfl rfl rfl) rfl fun w5=>?_;refine gy tv40 11 ?_;refine cn rfl (fun p7=>?_) fun p13=>?_
  · refine gx tv40 3 ?_;refine q1 (qcap0 tv40 rfl rfl rfl) rfl fun w8=>?_;refine q1 (qcut0 tv40 rfl rfl rfl rfl rfl (by omega)) rfl fun w9=>?_;refine gx tv40 1 ?_;refine ef (appz (m:=((n-(0-0))).toNat) 0 tv40 rfl rfl rfl rfl rfl rfl rfl rfl rfl rfl (by omega) (by omega) (by (try simp only[]);omega) rfl rfl fun u10=>?_);refine gx tv40 1 ?_;refine q1 (qlen0 tv40 rfl rfl rfl) rfl fun w11=>?_;refine ef (ocut BindR.pc tv40 rfl rfl rfl rfl rfl rfl (by omega) rfl fun u12=>?_);refine gx tv40 9 ?_;refine sw_val (t:=4) (i:=0) rfl rfl ?_;refine gx tv40 1 ?_;refine ro1 (j:=0) rfl rfl rfl ?_
    rfl
  refine gx tv40 8 ?_;refine sw_own (t:=4) (k:=6) (e:=49) 0 BindR.pc rfl rfl ?_;refine sw_val (t:=4) (i:=0) rfl rfl ?_;refine gx tv40 1 ?_;refine ro1 (j:=0) rfl rfl rfl ?_
  rfl
theorem M6_ (ls:List (List BindR)) (hl:ls.flatten.length<=100000000:=by first|omega|(simp;done)|(simp;omega)|(simp only[List.flatten_cons,List.flatten_nil,List.length_append,List.append_nil];simp;omega)):Fn Tryz.prog gb 271 [.sl (slc BindR.pc) ls] (.sl BindR.pc ls.flatten):=by
  refine fC Tryz.func271 tv40 Tryz.ntmps271 fun w N H hG=>?_;have ls_l:ls.length<=140737488355328:=w.1.1;refine gx tv40 19 ?_;refine loop (ι:=Nat×Int) [0,2,9,10] [] (fun ⟨k,n⟩=>[(3, .int .i64 n),(11, .int .i64 (k:Int))]) (fun ⟨k,n⟩=>[]) (fun ⟨k,n⟩=>k<=ls.length/\n=((ls.take k).flatten.length:Int)) (fun ⟨k,n⟩=>ls.length-k) ⟨0,0⟩ ⟨rfl,rfl,trivial⟩ trivial ?_ ?_
  · exact⟨Nat.zero_le _,by simp⟩
  rintro⟨k,n⟩ hp1;obtain⟨hk1,hk2⟩:=hp1;have hg0:=As_ ls k;refine gx tv40 6 ?_;refine cn rfl (fun p3=>?_) fun p10=>?_
  · obtain⟨c4,hc5⟩:=getE (xs:=ls) (m:=k) (by omega);refine gx tv40 6 ?_;refine q1 (qidx tv40 k rfl rfl rfl hc5 rfl rfl rfl rfl) rfl fun w6=>?_;refine go tv40 19 rfl rfl ⟨(by have hg:=As_ ls (k+1);have hfl:=congrArg List.length (O_ (by assumption :ls[k]? = some _));simp only[List.length_append] at hfl;omega),trivial⟩ ?_;refine cnd rfl (fun h7=>?_) (fun h7=>?_)
    · have p8:=dt h7
      exfalso;omega
    have p9:=df h7;refine go tv40 7 rfl rfl ⟨(by have hg:=As_ ls (k+1);have hfl:=congrArg List.length (O_ (by assumption :ls[k]? = some _));simp only[List.length_append] at hfl;omega),trivial⟩ ?_;refine next ⟨(k+1),(n+(c4.length:Int))⟩ rfl rfl ⟨rfl,rfl,trivial⟩ trivial ?_ ?_
    · (try simp only[]);omega
    have hf:=O_ hc5;have hg:=As_ ls (k+1);have hfl:=congrArg List.length hf
    simp only[List.length_append] at hfl
    exact⟨by omega,by (try simp only[]);omega⟩
  refine gx tv40 8 ?_;refine ef (ecallo 0 (Tl_ _) rfl rfl fun u12 w11=>?_);refine gx tv40 12 ?_;refine sw_osl (t:=6) 0 rfl rfl ?_;refine loop (ι:=Nat×(List BindR)×Value) [0,2,3,9,10,11,12,23,24,25,26] [] (fun ⟨k,out,u_out⟩=>[(6, .osl 0),(27, .int .i64 (k:Int))]) (fun ⟨k,out,u_out⟩=>[(0, .arr u_out 6 49 BindR.pc out)]) (fun ⟨k,out,u_out⟩=>k<=ls.length/\out=(ls.take k).flatten) (fun ⟨k,out,u_out⟩=>ls.length-k) ⟨0,([]:List BindR),(u12)⟩ ⟨rfl,rfl,trivial⟩ ⟨rfl,trivial⟩ ?_ ?_
  · exact⟨Nat.zero_le _,by simp⟩
  rintro⟨k,out,u_out⟩ hp13;obtain⟨hk1,hk2⟩:=hp13;refine gx tv40 6 ?_;refine cn rfl (fun p15=>?_) fun p20=>?_
  · obtain⟨c16,hc17⟩:=getE (xs:=ls) (m:=k) (by omega);refine gx tv40 6 ?_;refine q1 (qidx tv40 k rfl rfl rfl hc17 rfl rfl rfl rfl) rfl fun w18=>?_;refine gx tv40 7 ?_;refine ef (app tv40 c16 rfl rfl rfl rfl rfl rfl rfl rfl rfl (src_l rfl (fun _=>rfl)) (by have hg:=As_ ls (k+1);have hfl:=congrArg List.length (O_ (by assumption :ls[k]? = some _));simp only[List.length_append] at hfl;subst hk2;(try simp only[]);omega) rfl fun u19=>?_);refine go tv40 8 rfl rfl ⟨(by have hg:=As_ ls (k+1);have hfl:=congrArg List.length (O_ (by assumption :ls[k]? = some _));simp only[List.length_append] at hfl;omega),trivial⟩ ?_;refine next ⟨(k+1),(out++c16),(u19)⟩ rfl rfl ⟨rfl,rfl,trivial⟩ ⟨rfl,trivial⟩ ?_ ?_
    · (try simp only[]);omega
    exact⟨by omega,by (try simp only[]);rw[O_ hc17,hk2]⟩
  refine gx tv40 11 ?_;refine givec 0 rfl ?_;refine gx tv40 1 ?_;refine rt1 rfl rfl (ple ?_)
  rw[hk2,Eu_ (by omega)]
abbrev ty30:TI:=⟨.agg [(0,1)],1,24,[.sl DeedR.pc []]⟩
abbrev ty32:TI:=⟨.agg [(0,1),(1,1),(2,1),(3,1),(4,1),(5,1),(6,1)],7,96,[.int .i64 0, .sl I_.pc [], .sl LentR.pc [], .bool false, .bool false, .int .u64 0, .sl DeedR.pc []]⟩
abbrev ty56:TI:=⟨.slc 126,1,24,[.sl LentR.pc []]⟩
abbrev ty57:TI:=⟨.slc 184,1,24,[.sl DeedR.pc []]⟩
abbrev ty59:TI:=⟨.agg [(0,1),(1,1),(2,1),(3,1),(4,1),(5,1),(6,1)],7,96,[.int .i64 0, .sl I_.pc [], .sl LentR.pc [], .bool false, .bool false, .int .u64 0, .sl DeedR.pc []]⟩
def tbv41:Tb:=[(3,ty3),(4,ty4),(5,ty5),(9,ty9),(25,ty25),(26,ty26),(27,ty27),(28,ty28),(30,ty30),(32,ty32),(47,ty47),(51,ty51),(53,ty53),(56,ty56),(57,ty57),(59,ty59),(151,ty151),(184,Rh_)]
theorem tv41:tbB Tryz.prog tbv41=true:=by kernel_rfl
theorem Gk_ (d:DeedR) (x1:Bs) (x2:Int):Fn Tryz.prog gb 94 [.agg (DeedR.pc d), .el [.str x1] 0, .el [.int .u64 x2] 0] (.bool (Cf_ d x1 x2)):=by
  refine fC Tryz.func94 tv41 Tryz.ntmps94 fun w N H hG=>?_;have e0:=Cf_.eq_1 d x1 x2;refine gmy tv41 27 [0] fun B2=>?_;exact rt1 rfl rfl (Cx_ (fun r:Bool=> .bool r) e0 (ple rfl))
theorem Cw_ (x:Ai_) (name:Bs) (id:Int):Fn Tryz.prog gb 41 [.agg (Ai_.pc x), .str name, .int .u64 id] (.bool (A4_ x name id)):=by
  refine fC Tryz.func41 tv41 Tryz.ntmps41 fun w N H hG=>?_;have e0:=A4_.eq_1 x name id;refine gm tv41 12 [0,1,2] fun B2=>?_;refine freeze (i:=1) (t:=4) rfl rfl rfl rfl ?_;refine freeze (i:=2) (t:=5) rfl rfl rfl rfl ?_;refine gx tv41 1 ?_;refine call (cF_Deed _ _ _ _ (fun z_5:DeedR=>(Cf_ z_5 name id)) (fun z_5=>Gk_ z_5 name id)) rfl rfl fun w6=>?_;refine gx tv41 4 ?_;exact rt1 rfl rfl (Cx_ (fun r:Bool=> .bool r) e0 (ple rfl))
theorem Fm_ (d:DeedR) (hl:d.mail.head.length<=1000000:=by first|omega|(simp;done)|decide):Fn Tryz.prog gb 141 [.agg (DeedR.pc d)] (.agg (DeedR.pc (Cj_ d))):=by
  refine fC Tryz.func141 tv41 Tryz.ntmps141 fun w N H hG=>?_;have e0:=Cj_.eq_1 d;refine gm tv41 11 [0,1] fun B2=>?_;refine call (Ji_ _) rfl rfl fun w4=>?_;refine gm tv41 12 [] fun _=>?_;exact rt1 rfl rfl (Cx_ (fun r:DeedR=> .agg (DeedR.pc r)) e0 (ple rfl))
theorem Fg_ (x:Ai_) (d:DeedR):Fn Tryz.prog gb 139 [.agg (Ai_.pc x), .agg (DeedR.pc d)] (.int .i64 (P_ x d)):=by
  refine fC Tryz.func139 tv41 Tryz.ntmps139 fun w N H hG=>?_;have e0:=P_.eq_1 x d;generalize P_ x d=z at e0 ⊢;refine gm tv41 8 [0,1] fun B2=>?_;obtain⟨o,e_o,q_o⟩:=S6_ e0;refine Pe_ (ι:=Unit) [2,3] [0,1] (fun _=>[]) (fun _=>[]) (fun _=>o = .fin ()) ?_ ?_
  · refine gx tv41 14 ?_;refine cE e_o (fun h4 e6=>?_) (fun h4 e8=>?_)
    · have p5:=dt h4;refine gx tv41 2 ?_;refine cndT rfl h4 ?_;refine gx tv41 2 ?_;refine nX () ?_ trivial trivial;exact e6
    have p7:=df h4;refine gx tv41 5 ?_;refine cD e8 (fun p10 e11=>?_) (fun p12 e13=>?_)
    · refine gx tv41 2 ?_;refine nX () ?_ trivial trivial;exact e11
    refine gx tv41 9 ?_;have e14:=lp0_ret q_o e13;subst e14;exact qr1
  rintro _ hp15;have e16:=lp0_fin q_o hp15;refine gx tv41 5 ?_;refine call (Jf_ _) rfl rfl fun w17=>?_;have :=J1_ d;refine gx tv41 11 ?_;refine cN e16 (fun p20 e21=>?_) (fun p23 e24=>?_)
  · refine gx tv41 9 ?_;subst e21;exact qr1
  refine gy tv41 11 ?_;refine callg rfl (fun hc=>(Cw_ _ _ _)) rfl ⟨(fun hc=>hc),(fun hc=>hc),(fun hc=>hc),trivial⟩ rfl rfl fun _=>?_;refine gy tv41 4 ?_;refine cE e24 (fun h25 e29=>?_) (fun h25 e30=>?_)
  · have h26:=bl h25;have p27:=dt h26;have h28:=br h25;refine gx tv41 8 ?_;subst e29;exact qr1
  refine gx tv41 9 ?_;refine cD e30 (fun p32 e33=>?_) (fun p34 e35=>?_)
  · refine gx tv41 8 ?_;subst e33;exact qr1
  refine gx tv41 9 ?_;subst e35;exact qr1
theorem Fk_ (x:List DeedR) (name:Bs) (id:Int):Fn Tryz.prog gb 143 [.sl DeedR.pc x, .str name, .int .u64 id] (.bool (B2_ x name id)):=by
  refine fC Tryz.func143 tv41 Tryz.ntmps143 fun w N H hG=>?_;have x_l:x.length<=140737488355328:=w.1.1;have name_l:name.length<=9223372036854775807:=w.2.1;have id_r:0<=id/\id<=18446744073709551615:=w.2.2.1;have e0:=B2_.eq_1 x name id;generalize B2_ x name id=z at e0 ⊢;refine gx tv41 14 ?_;refine loop (ι:=Nat) [1,2,9,10] [] (fun k=>[(11, .int .i64 (k:Int))]) (fun k=>[]) (fun k=>k<=x.length/\z=A5_ name id (x.drop k)) (fun k=>x.length-k) 0 ⟨rfl,trivial⟩ trivial ?_ ?_
  · exact⟨Nat.zero_le _,e0⟩
  rintro k ⟨hp1_1,hp1_2⟩;refine gx tv41 6 ?_;refine cn rfl (fun p3=>?_) fun p19=>?_
  · have e4:=Bz_ (f:=fun zz=>A5_ name id zz) hp1_2 (Ec_ (by omega)) (A5_.eq_2 _ _ _ _);have hc5:=getG (xs:=x) (k:=k) (by omega);refine gx tv41 6 ?_;refine q1 (qidx tv41 k rfl rfl rfl hc5 rfl rfl rfl rfl) rfl fun w6=>?_;refine gmy tv41 24 [0] fun B8=>?_;refine cE e4 (fun h9 e17=>?_) (fun h9 e18=>?_)
    · have h10:=bl h9;have h11:=bl h10;have p12:=dt h11;have h13:=br h10;have p14:=dt h13;have h15:=br h9;have p16:=dt h15;refine gx tv41 11 ?_;subst e17;exact qr1
    refine gy tv41 7 ?_;refine next (k+1) rfl rfl ⟨rfl,trivial⟩ trivial ?_ ?_
    · (try simp only[]);omega
    exact⟨by (try simp only[]);omega,e18⟩
  have e20:=Bz_ (f:=fun zz=>A5_ name id zz) hp1_2 (D5_ (by omega)) (A5_.eq_1 _ _);refine gx tv41 11 ?_;subst e20;exact qr1
theorem Hd_:Fn Tryz.prog gb 9 [] (.agg (ChanR.pc (Bn_))):=by
  refine fC Tryz.func9 tv41 Tryz.ntmps9 fun w N H hG=>?_;have e0:=Bn_.eq_1;refine gm tv41 12 [0] fun B2=>?_;exact rt1 rfl rfl (Cx_ (fun r:ChanR=> .agg (ChanR.pc r)) e0 (ple rfl))
theorem Dd_ (c:ChanR) (n:Int):Fn Tryz.prog gb 36 [.agg (ChanR.pc c), .int .u64 n] (.tup [.agg (ChanR.pc ((H_ c n).1)), .int .i64 ((H_ c n).2)]):=by
  refine fC Tryz.func36 tv41 Tryz.ntmps36 fun w N H hG=>?_;have e0:=H_.eq_1 c n;generalize H_ c n=z at e0 ⊢;refine gmy tv41 18 [0,1] fun B2=>?_;refine cE e0 (fun h4 e5=>?_) (fun h4 e11=>?_)
  · refine gm tv41 9 [] fun _=>?_;subst e5;exact qr2
  have h7:=orl h4;have p8:=df h7;have h9:=orr h4;have p10:=df h9;refine gm tv41 18 [] fun _=>?_;subst e11;exact qr2
theorem Dw_ (c:ChanR) (hc:0<=c.credit/\c.credit<=1000:=by first|omega|(simp;omega)|decide +kernel):Fn Tryz.prog gb 38 [.agg (ChanR.pc c)] (.int .i64 (Co_ c)):=by
  refine fC Tryz.func38 tv41 Tryz.ntmps38 fun w N H hG=>?_;have c_takers_l:c.takers.length<=140737488355328:=w.1.2.1.1;have c_lent_l:c.lent.length<=140737488355328:=w.1.2.2.1.1;have c_held_l_l:c.held.l.length<=140737488355328:=w.1.2.2.2.2.2.2.1.1;have e0:=Co_.eq_1 c;refine gmy tv41 19 [0] fun B2=>?_;exact rt1 rfl rfl (Cx_ (fun r:Int=> .int .i64 r) e0 (ple rfl))
theorem Ll_ (t:I_) (x1:Int):Fn Tryz.prog gb 136 [.agg (I_.pc t), .el [.int .u64 x1] 0] (.bool (E0_ t x1)):=by
  refine fC Tryz.func136 tv41 Tryz.ntmps136 fun w N H hG=>?_;have e0:=E0_.eq_1 t x1;refine gm tv41 16 [0] fun B2=>?_;exact rt1 rfl rfl (Cx_ (fun r:Bool=> .bool r) e0 (ple rfl))
theorem Er_ (c:ChanR) (tag:Int):Fn Tryz.prog gb 95 [.agg (ChanR.pc c), .int .u64 tag] (.int .i64 (Cc_ c tag)):=by
  refine fC Tryz.func95 tv41 Tryz.ntmps95 fun w N H hG=>?_;have e0:=Cc_.eq_1 c tag;refine gm tv41 11 [0,1] fun B2=>?_;refine freeze (i:=1) (t:=3) rfl rfl rfl rfl ?_;refine gx tv41 1 ?_;refine call (Ph_ _ _ _ _ (fun z_4:I_=>(E0_ z_4 tag)) (fun z_4=>Ll_ z_4 tag)) rfl rfl fun w5=>?_;have hix5:=G9_ (fun z_4:I_=>(E0_ z_4 tag)) c.takers;refine gx tv41 4 ?_;exact rt1 rfl rfl (Cx_ (fun r:Int=> .int .i64 r) e0 (ple rfl))
theorem Gc_ (c:ChanR):Fn Tryz.prog gb 50 [.agg (ChanR.pc c)] (.tup [.agg (ChanR.pc ((Ax_ c).1)), .int .i64 ((Ax_ c).2)]):=by
  refine fC Tryz.func50 tv41 Tryz.ntmps50 fun w N H hG=>?_;have e0:=Ax_.eq_1 c;generalize Ax_ c=z at e0 ⊢;refine gm tv41 14 [0,1] fun B2=>?_;refine cE e0 (fun h4 e5=>?_) (fun h4 e7=>?_)
  · refine gm tv41 9 [] fun _=>?_;subst e5;exact qr2
  refine gm tv41 16 [] fun _=>?_;subst e7;exact qr2
theorem G1_ (c:ChanR):Fn Tryz.prog gb 52 [.agg (ChanR.pc c)] (.tup [.agg (ChanR.pc ((A6_ c).1)), .int .u64 ((A6_ c).2)]):=by
  refine fC Tryz.func52 tv41 Tryz.ntmps52 fun w N H hG=>?_;have e0:=A6_.eq_1 c;generalize A6_ c=z at e0 ⊢;refine gm tv41 15 [0,1] fun B2=>?_;refine cE e0 (fun h4 e6=>?_) (fun h4 e9=>?_)
  · have h5:=Bd_ h4;refine gm tv41 9 [] fun _=>?_;subst e6;exact qr2
  have h8:=Bb_ h4;have :=Kw_ (c.puts+1);refine gm tv41 12 [] fun _=>?_;refine aN [1,2,3,4,5,6,7] 5 mixd ?_;refine gX tv41 [0,1,2] 2 ?_;refine vE 3 rfl (sA tv41 ?_);refine gX tv41 [4] 0 ?_;refine vD ?_;refine gx tv41 2 ?_;subst e9;exact qr2
theorem Fu_ (c:ChanR):Fn Tryz.prog gb 54 [.agg (ChanR.pc c)] (.tup [.agg (ChanR.pc ((Aq_ c).1)), .int .i64 ((Aq_ c).2)]):=by
  refine fC Tryz.func54 tv41 Tryz.ntmps54 fun w N H hG=>?_;have e0:=Aq_.eq_1 c;generalize Aq_ c=z at e0 ⊢;refine gmy tv41 18 [0,1] fun B2=>?_;refine cE e0 (fun h4 e5=>?_) (fun h4 e9=>?_)
  · refine gm tv41 9 [] fun _=>?_;subst e5;exact qr2
  have h7:=orl h4;have h8:=orr h4;refine gm tv41 16 [] fun _=>?_;subst e9;exact qr2
theorem F1_ (c:ChanR):Fn Tryz.prog gb 58 [.agg (ChanR.pc c)] (.tup [.agg (ChanR.pc ((Az_ c).1)), .int .i64 ((Az_ c).2)]):=by
  refine fC Tryz.func58 tv41 Tryz.ntmps58 fun w N H hG=>?_;have e0:=Az_.eq_1 c;generalize Az_ c=z at e0 ⊢;refine gm tv41 15 [0,1] fun B2=>?_;refine cE e0 (fun h4 e6=>?_) (fun h4 e9=>?_)
  · have h5:=Bd_ h4;refine gm tv41 9 [] fun _=>?_;subst e6;exact qr2
  have h8:=Bb_ h4;refine gm tv41 17 [] fun _=>?_;subst e9;exact qr2
theorem Kd_ (c:ChanR) (n:Int):Fn Tryz.prog gb 43 [.agg (ChanR.pc c), .int .u64 n] (.tup [.agg (ChanR.pc ((C1_ c n).1)), .int .i64 ((C1_ c n).2)]):=by
  refine fC Tryz.func43 tv41 Tryz.ntmps43 fun w N H hG=>?_;have e0:=C1_.eq_1 c n;generalize C1_ c n=z at e0 ⊢;refine gmy tv41 18 [0,1] fun B2=>?_;refine cE e0 (fun h4 e5=>?_) (fun h4 e11=>?_)
  · refine gm tv41 9 [] fun _=>?_;subst e5;exact qr2
  have h7:=orl h4;have p8:=df h7;have h9:=orr h4;have p10:=df h9;refine gm tv41 18 [] fun _=>?_;subst e11;exact qr2
theorem Mi_ (c:ChanR):Fn Tryz.prog gb 51 [.agg (ChanR.pc c)] (.tup [.agg (ChanR.pc ((F5_ c).1)), .int .i64 ((F5_ c).2)]):=by
  refine fC Tryz.func51 tv41 Tryz.ntmps51 fun w N H hG=>?_;have e0:=F5_.eq_1 c;generalize F5_ c=z at e0 ⊢;refine gm tv41 14 [0,1] fun B2=>?_;refine cE e0 (fun h4 e5=>?_) (fun h4 e7=>?_)
  · refine gm tv41 9 [] fun _=>?_;subst e5;exact qr2
  refine gm tv41 16 [] fun _=>?_;subst e7;exact qr2
theorem Pj_ (c:ChanR):Fn Tryz.prog gb 53 [.agg (ChanR.pc c)] (.tup [.agg (ChanR.pc ((Fz_ c).1)), .int .u64 ((Fz_ c).2)]):=by
  refine fC Tryz.func53 tv41 Tryz.ntmps53 fun w N H hG=>?_;have e0:=Fz_.eq_1 c;generalize Fz_ c=z at e0 ⊢;refine gm tv41 14 [0,1] fun B2=>?_;refine cE e0 (fun h4 e5=>?_) (fun h4 e7=>?_)
  · have :=Kw_ (c.puts+1);refine gm tv41 9 [] fun _=>?_;refine aN [1,2,3,4,5,6,7] 5 mixd ?_;refine gX tv41 [0,1,2] 2 ?_;refine vE 3 rfl (sA tv41 ?_);refine gX tv41 [4] 0 ?_;refine vD ?_;refine gx tv41 2 ?_;subst e5;exact qr2
  refine gx tv41 3 ?_;refine aN [1,2,3,4,5,6,7] 5 mixd ?_;refine gX tv41 [0,1,2] 2 ?_;refine vE 3 rfl (sA tv41 ?_);refine gX tv41 [4] 0 ?_;refine vD ?_;refine gx tv41 2 ?_;subst e7;exact qr2
theorem L4_ (c:ChanR):Fn Tryz.prog gb 55 [.agg (ChanR.pc c)] (.tup [.agg (ChanR.pc ((E2_ c).1)), .int .i64 ((E2_ c).2)]):=by
  refine fC Tryz.func55 tv41 Tryz.ntmps55 fun w N H hG=>?_;have e0:=E2_.eq_1 c;generalize E2_ c=z at e0 ⊢;refine gmy tv41 18 [0,1] fun B2=>?_;refine cE e0 (fun h4 e5=>?_) (fun h4 e9=>?_)
  · refine gm tv41 9 [] fun _=>?_;subst e5;exact qr2
  have h7:=orl h4;have h8:=orr h4;refine gm tv41 16 [] fun _=>?_;subst e9;exact qr2
theorem M5_ (c:ChanR):Fn Tryz.prog gb 59 [.agg (ChanR.pc c)] (.tup [.agg (ChanR.pc ((F7_ c).1)), .int .i64 ((F7_ c).2)]):=by
  refine fC Tryz.func59 tv41 Tryz.ntmps59 fun w N H hG=>?_;have e0:=F7_.eq_1 c;generalize F7_ c=z at e0 ⊢;refine gm tv41 15 [0,1] fun B2=>?_;refine cE e0 (fun h4 e6=>?_) (fun h4 e9=>?_)
  · have h5:=Bd_ h4;refine gm tv41 9 [] fun _=>?_;subst e6;exact qr2
  have h8:=Bb_ h4;refine gx tv41 5 ?_;refine ef (sO tv41 ?_);refine box_nil (i:=0) (off:=6) (enc:=DeedR.pc) rfl rfl rfl ?_;refine gm tv41 10 [] fun _=>?_;subst e9;exact qr2
theorem cb273:U_ Tryz.prog 273:=Ag_ Tryz.func273 (by kernel_rfl) (by kernel_rfl)
def tbv45:Tb:=[(9,ty9),(44,ty44),(49,ty49),(200,Mz_),(339,ty339),(340,Ur_),(342,U4_),(371,ty371)]
theorem tv45:tbB Tryz.prog tbv45=true:=by kernel_rfl
theorem G6_ (l:List Bs) (s:Bs) (hl:l.length<=100000:=by first|omega|(simp;omega)|decide +kernel):Fl Tryz.prog gb 273 [.str s] (fun u=> .val u) 1 9 strc l (C8_ l s):=by
  refine fl_cw tv45 Tryz.func273 rfl Tryz.ntmps273 rfl cb273 (fun _=>rfl) rfl fun w l_l u0 N H hG=>?_;have e0:=C8_.eq_1 l s;refine gx tv45 10 ?_;refine ef (calll 0 rfl (L2_ _ _) rfl rfl rfl fun w1=>?_);refine gx tv45 2 ?_;refine cD e0 (fun p3 e4=>?_) (fun p5 e6=>?_)
  · refine gx tv45 6 ?_;refine sw_val (t:=4) (i:=0) rfl rfl ?_;refine gx tv45 2 ?_;refine ro1 (j:=0) rfl rfl rfl ?_;exact (congrArg (fun r:(List Bs)=>r) e4).symm
  refine gx tv45 6 ?_;refine ef (bsl 1 strc [s] tv45 rfl rfl rfl rfl rfl (fun _=>rfl) rfl (by decide) (by decide) rfl fun u7=>?_);refine ef (app tv45 [s] rfl rfl rfl rfl rfl rfl rfl rfl rfl (src_o rfl rfl) (by first|omega|(simp;omega)) rfl fun u8=>?_);refine gx tv45 3 ?_;refine sw_val (t:=4) (i:=0) rfl rfl ?_;refine gx tv45 1 ?_;refine ro1 (j:=0) rfl rfl rfl ?_;exact (congrArg (fun r:(List Bs)=>r) e6).symm
theorem Gh_ (b:BookR) (x:ShopR) (hs:b.shops.length<=1000:=by first|omega|(simp;omega)|decide +kernel):Fn Tryz.prog gb 256 [.agg (BookR.pc b), .agg (ShopR.pc x)] (.tup [.agg (BookR.pc ((Ba_ b x).1)), .int .i64 ((Ba_ b x).2)]):=by
  refine fC Tryz.func256 tv45 Tryz.ntmps256 fun w N H hG=>?_;have e0:=Ba_.eq_1 b x;generalize Ba_ b x=z at e0 ⊢;refine gm tv45 12 [0,1,2] fun B2=>?_;refine call (Pb_ _) rfl rfl fun w5=>?_;have :=shopE_r x;refine gx tv45 9 ?_;refine cN e0 (fun p8 e9=>?_) (fun p12 e13=>?_)
  · refine gm tv45 10 [] fun _=>?_;subst e9;exact qr2
  refine gx tv45 7 ?_;refine call (H9_ _ _) rfl rfl fun w14=>?_;refine gm tv45 16 [3] fun B16=>?_;refine q1g [25,26] rfl (fun hc=>saeq rfl rfl eqg44 (veq44 x ((Bx_ b.shops x.name).getD ShopR.zero))) ⟨(fun hc=>hc),(fun hc=>hc),trivial⟩ rfl rfl rfl fun _=>?_;refine gy tv45 4 ?_;refine cE e13 (fun h17 e21=>?_) (fun h17 e23=>?_)
  · have h18:=bl h17;have h19:=br h17;have p20:=dt h19;refine gm tv45 10 [] fun _=>?_;subst e21;exact qr2
  refine gx tv45 6 ?_;refine cE e23 (fun h24 e25=>?_) (fun h24 e27=>?_)
  · refine gm tv45 10 [] fun _=>?_;subst e25;exact qr2
  refine gx tv45 9 ?_;refine cD e27 (fun p29 e30=>?_) (fun p32 e33=>?_)
  · refine gm tv45 10 [] fun _=>?_;subst e30;exact qr2
  refine gx tv45 8 ?_;refine ef (bsl 4 ShopR.pc [x] tv45 rfl rfl rfl rfl rfl (fun _=>rfl) rfl (by decide) (by decide) rfl fun u34=>?_);refine give 4 rfl ?_;refine ef (bsl 4 (slc ShopR.pc) [b.shops,[x]] tv45 rfl rfl rfl rfl rfl (fun _=>rfl) rfl (by decide) (by decide) rfl fun u35=>?_);refine give 4 rfl ?_;refine call (Mx_ _) rfl rfl fun w36=>?_;refine gm tv45 12 [] fun _=>?_;subst e33;exact qr2
theorem Fr_ (b:BookR) (x:BindR):Fn Tryz.prog gb 270 [.agg (BookR.pc b), .agg (BindR.pc x)] (.int .i64 (B5_ b x)):=by
  refine fC Tryz.func270 tv45 Tryz.ntmps270 fun w N H hG=>?_;have e0:=B5_.eq_1 b x;refine gm tv45 13 [0,1] fun B2=>?_;refine call (Ta_ _ _ _ _ (fun z_4:BindR=>decide (x=z_4)) (fun z_4=>Pz_ x z_4)) rfl rfl fun w5=>?_;have hix5:=G9_ (fun z_4:BindR=>decide (x=z_4)) b.binds;refine gx tv45 4 ?_;exact rt1 rfl rfl (Cx_ (fun r:Int=> .int .i64 r) e0 (ple rfl))
abbrev R0_:Int->PV:=fun r=> .int .i64 r
def tbv46:Tb:=[(4,ty4),(5,ty5),(9,ty9),(44,ty44),(49,ty49),(200,Mz_),(340,Ur_),(342,U4_),(375,ty375)]
theorem tv46:tbB Tryz.prog tbv46=true:=by kernel_rfl
theorem Dv_ (b:BookR) (x:BindR) (hb:b.binds.length<=1000:=by first|omega|(simp;omega)|decide +kernel) (hw:x.want.length<=1000:=by first|omega|(simp;omega)|decide +kernel):Fn Tryz.prog gb 257 [.agg (BookR.pc b), .agg (BindR.pc x)] (.tup [.agg (BookR.pc ((Ad_ b x).1)), .int .i64 ((Ad_ b x).2)]):=by
  refine fC Tryz.func257 tv46 Tryz.ntmps257 fun w N H hG=>?_;have e0:=Ad_.eq_1 b x;generalize Ad_ b x=z at e0 ⊢;refine gm tv46 13 [0,1,2] fun B2=>?_;refine call (H9_ _ _) rfl rfl fun w5=>?_;refine gm tv46 17 [3] fun B7=>?_;refine cE e0 (fun h8 e10=>?_) (fun h8 e13=>?_)
  · have h9:=Bd_ h8;refine gm tv46 10 [] fun _=>?_;subst e10;exact qr2
  have h12:=Bb_ h8;refine gx tv46 8 ?_;refine cD e13 (fun p15 e16=>?_) (fun p18 e19=>?_)
  · refine gm tv46 10 [] fun _=>?_;subst e16;exact qr2
  refine gx tv46 8 ?_;refine call (Bc_ _) rfl rfl fun w20=>?_;refine gx tv46 9 ?_;refine cN e19 (fun p23 e24=>?_) (fun p27 e28=>?_)
  · refine gm tv46 10 [] fun _=>?_;subst e24;exact qr2
  refine gx tv46 8 ?_;refine call (Gb_ _ _) rfl rfl fun w29=>?_;refine call (Jh_ _) rfl rfl fun w30=>?_;refine gx tv46 11 ?_;refine cN e28 (fun p33 e34=>?_) (fun p37 e38=>?_)
  · refine gm tv46 11 [] fun _=>?_;subst e34;exact qr2
  refine gx tv46 4 ?_;refine cV e38 R0_ (Fr_ _ _) rfl fun r hr39 e41 w40=>?_;have hA41:=there_r b x
  (try rw[<- hr39] at hA41)
  refine gx tv46 4 ?_;refine cD e41 (fun p44 e45=>?_) (fun p47 e48=>?_)
  · refine gm tv46 10 [] fun _=>?_;subst e45;exact qr2
  refine gx tv46 9 ?_;refine cD e48 (fun p50 e51=>?_) (fun p53 e54=>?_)
  · refine gm tv46 10 [] fun _=>?_;subst e51;exact qr2
  refine gx tv46 4 ?_;refine aN [4,5,6,7,8,9] 9 mixd ?_;refine gX tv46 [0,1,2] 6 ?_;refine vE 3 rfl (eC (O1_ _) rfl fun w55=>?_);refine vE 4 rfl (bsl 4 BindR.pc [x] tv46 rfl rfl rfl rfl rfl (fun _=>rfl) rfl (by decide) (by decide) rfl fun u56=>?_);refine vE 5 rfl (O2_ 4 rfl (bsl 4 (slc BindR.pc) [b.binds,[x]] tv46 rfl rfl rfl rfl rfl (fun _=>rfl) rfl (by decide) (by decide) rfl fun u57=>?_));refine vE 6 rfl (O2_ 4 rfl (Us_ (eC (M6_ _) rfl fun w58=>?_)));refine gX tv46 [7] 1 ?_;refine vT 8 rfl (sO tv46 ?_);refine vD ?_;refine gm tv46 9 [] fun _=>?_;subst e54;exact qr2
theorem Ft_ (b:BookR) (shop:Bs) (key:Bs) (h:List Pair) (hb:b.binds.length<=1000:=by first|omega|(simp;omega)|decide +kernel) (hk:key.length<4294967281:=by first|omega|(simp;omega)|decide +kernel) (hr:∀ y∈b.binds,y.key.length<4294967281:=by first|assumption|decide +kernel):Fn Tryz.prog gb 258 [.agg (BookR.pc b), .str shop, .str key, .sl Pair.pc h] (.tup [.sl strc ((A1_ b shop key h).1), .sl strc ((A1_ b shop key h).2.1), .int .i64 ((A1_ b shop key h).2.2)]):=by
  refine fC Tryz.func258 tv46 Tryz.ntmps258 fun w N H hG=>?_;have e0:=A1_.eq_1 b shop key h;generalize A1_ b shop key h=z at e0 ⊢;refine gm tv46 13 [0] fun B2=>?_;refine call (H9_ _ _) rfl rfl fun w3=>?_;refine gm tv46 17 [1] fun B5=>?_;refine cE e0 (fun h6 e8=>?_) (fun h6 e10=>?_)
  · have h7:=Bd_ h6;refine gx tv46 11 ?_;subst e8;exact rt3 rfl rfl (Il_ (Ac_ Cy_ (Ac_ Cy_ (Ac_ (ple rfl) C5_))))
  have h9:=Bb_ h6;refine gx tv46 8 ?_;refine cD e10 (fun p12 e13=>?_) (fun p15 e16=>?_)
  · refine gx tv46 1 ?_;refine aN [2,3,4,5,6,7] 6 mixd ?_;refine gX tv46 [0,1,3] 3 ?_;refine vE 2 rfl (bsl 2 strc [((Bx_ b.shops shop).getD ShopR.zero).to] tv46 rfl rfl rfl rfl rfl (fun _=>rfl) rfl (by decide) (by decide) rfl fun u14=>?_);refine gX tv46 [4,5] 0 ?_;refine vD ?_;refine gx tv46 1 ?_;refine givec 2 rfl ?_;refine gx tv46 4 ?_;subst e13;exact rt3 rfl rfl (Il_ (Ac_ Cy_ (Ac_ (ple rfl) (Ac_ (ple rfl) C5_))))
  refine gx tv46 22 ?_;refine sw_own (t:=13) (k:=1) (e:=9) 2 strc rfl rfl ?_;refine sw_own (t:=14) (k:=1) (e:=9) 3 strc rfl rfl ?_;refine loop (ι:=Nat×(List Bs)×(List Bs)×Value×Value) [1,2,3,8,9,10,11,34,35] [0,1] (fun ⟨k,queues,places,u_queues,u_places⟩=>[(36, .int .i64 (k:Int)),(13, .osl 2),(14, .osl 3)]) (fun ⟨k,queues,places,u_queues,u_places⟩=>[(2, .arr u_queues 1 9 strc queues),(3, .arr u_places 1 9 strc places)]) (fun ⟨k,queues,places,u_queues,u_places⟩=>k<=b.binds.length/\z=X_ b shop key h (b.binds.drop k) queues places/\queues.length<=k/\places.length<=k) (fun ⟨k,queues,places,u_queues,u_places⟩=>b.binds.length-k) ⟨0,[],[],(.slice none 0 0),(.slice none 0 0)⟩ ⟨rfl,rfl,rfl,trivial⟩ ⟨rfl,rfl,trivial⟩ ?_ ?_
  · exact⟨Nat.zero_le _,e16,(by first|omega|(simp;done)|(simp;omega))⟩
  rintro⟨k,queues,places,u_queues,u_places⟩ ⟨hp17_1,hp17_2,hp17_3⟩;refine gx tv46 6 ?_;refine cn rfl (fun p19=>?_) fun p52=>?_
  · have e20:=Bz_ (f:=fun zz=>X_ b shop key h zz queues places) hp17_2 (Ec_ (by omega)) (X_.eq_2 _ _ _ _ _ _ _ _);have hc21:=getG (xs:=b.binds) (k:=k) (by omega);have hr_hc21:=hr (gt b.binds k) (List.mem_of_getElem? hc21);refine gx tv46 6 ?_;refine q1 (qidx tv46 k rfl rfl rfl hc21 rfl rfl rfl rfl) rfl fun w22=>?_;refine gm tv46 7 [4] fun B24=>?_;obtain⟨o,e_o,q_o⟩:=Hv_ e20;refine Pe_ (ι:=Bool) [1,2,3,8,9,10,11,13,14,16,34,35,36] [0,1,2,3,4] (fun v=>[(44, .bool v)]) (fun v=>[]) (fun v=>o=v) ?_ ?_
    · refine gx tv46 9 ?_;refine cN e_o (fun p27 e28=>?_) (fun p30 e31=>?_)
      · refine gx tv46 1 ?_;refine nX (!decide (((gt b.binds k).shop)=shop)) ?_ ⟨rfl,trivial⟩ trivial;exact e28
      refine gx tv46 4 ?_;refine call (Gb_ _ _) rfl rfl fun w32=>?_;refine gx tv46 2 ?_;refine call (Hr_ _ _ _ (hrk:=by simp only[Dt_];omega)) rfl rfl fun w33=>?_;refine gx tv46 3 ?_;refine nX (!(G0_ (Dt_ (gt b.binds k) (((Bx_ b.shops shop).getD ShopR.zero).sort)) key h)) ?_ ⟨rfl,trivial⟩ trivial;exact e31
    rintro v hp34;have e35:=Mn_ q_o hp34;refine gx tv46 1 ?_;refine cE e35 (fun h36 e37=>?_) (fun h36 e38=>?_)
    · refine gy tv46 8 ?_;refine next ⟨(k+1),queues,places,(u_queues),(u_places)⟩ rfl rfl ⟨rfl,rfl,rfl,trivial⟩ ⟨rfl,rfl,trivial⟩ ?_ ?_
      · (try simp only[]);omega
      exact⟨by (try simp only[]);omega,e37,⟨by (try simp only[]);omega,by (try simp only[]);omega⟩⟩
    refine gx tv46 7 ?_;refine cE e38 (fun h39 e40=>?_) (fun h39 e46=>?_)
    · refine gx tv46 4 ?_;refine ef (ecallw (G6_ _ _) rfl rfl rfl rfl rfl rfl ?_);generalize hr43:C8_ places ((gt b.binds k).to)=r;intro u41 w42;have e44:=e40.trans (If_ hr43.symm);have hr43:=hr43.symm;have hA44:=Sl_ places ((gt b.binds k).to)
      (try rw[<- hr43] at hA44)
      refine gy tv46 9 ?_;refine V5_ (t:=14) 3 rfl rfl ?_;refine next ⟨(k+1),queues,r,(u_queues),(u41)⟩ rfl rfl ⟨rfl,rfl,rfl,trivial⟩ ⟨rfl,rfl,trivial⟩ ?_ ?_
      · (try simp only[]);omega
      exact⟨by (try simp only[]);omega,e44,⟨by (try simp only[]);omega,by (try simp only[]);omega⟩⟩
    refine gx tv46 4 ?_;refine ef (ecallw (G6_ _ _) rfl rfl rfl rfl rfl rfl ?_);generalize hr49:C8_ queues ((gt b.binds k).to)=r1;intro u47 w48;have e50:=e46.trans (If_ hr49.symm);have hr49:=hr49.symm;have hA50:=Sl_ queues ((gt b.binds k).to)
    (try rw[<- hr49] at hA50)
    refine gy tv46 9 ?_;refine V5_ (t:=13) 2 rfl rfl ?_;refine next ⟨(k+1),r1,places,(u47),(u_places)⟩ rfl rfl ⟨rfl,rfl,rfl,trivial⟩ ⟨rfl,rfl,trivial⟩ ?_ ?_
    · (try simp only[]);omega
    exact⟨by (try simp only[]);omega,e50,⟨by (try simp only[]);omega,by (try simp only[]);omega⟩⟩
  have e53:=Bz_ (f:=fun zz=>X_ b shop key h zz queues places) hp17_2 (D5_ (by omega)) (X_.eq_1 _ _ _ _ _ _);refine gx tv46 14 ?_;refine givec 2 rfl ?_;refine givec 3 rfl ?_;refine gx tv46 2 ?_;subst e53;exact qr3
abbrev R1_:DeedR->PV:=fun r=> .agg (DeedR.pc r)
theorem cb11:U_ Tryz.prog 11:=Ag_ Tryz.func11 (by kernel_rfl) (by kernel_rfl)
theorem cb191:U_ Tryz.prog 191:=Ag_ Tryz.func191 (by kernel_rfl) (by kernel_rfl)
abbrev ty55:TI:=⟨.slc 177,1,24,[.sl I_.pc []]⟩
abbrev ty126:TI:=⟨.agg [(0,1),(1,1)],2,24,[.int .u64 0, .str []]⟩
abbrev ty177:TI:=⟨.agg [(0,1),(1,1)],2,24,[.int .u64 0, .str []]⟩
def tbv42:Tb:=[(4,ty4),(5,ty5),(9,ty9),(25,ty25),(26,ty26),(27,ty27),(28,ty28),(30,ty30),(32,ty32),(39,ty39),(51,ty51),(53,ty53),(55,ty55),(56,ty56),(57,ty57),(59,ty59),(126,ty126),(151,ty151),(177,ty177),(184,Rh_),(187,ty187),(242,ty242),(280,ty280)]
theorem tv42:tbB Tryz.prog tbv42=true:=by kernel_rfl
theorem F0_ (x:Ai_) (l:List DeedR) (hx:x.l.length<=1000:=by first|omega|(simp;omega)|decide +kernel):Fn Tryz.prog gb 99 [.agg (Ai_.pc x), .sl DeedR.pc l] (.tup [.agg (Ai_.pc ((Ay_ x l).1)), .int .i64 ((Ay_ x l).2)]):=by
  refine fC Tryz.func99 tv42 Tryz.ntmps99 fun w N H hG=>?_;have x_l_l:x.l.length<=140737488355328:=w.1.1.1;have l_l:l.length<=140737488355328:=w.2.1.1;have e0:=Ay_.eq_1 x l;generalize Ay_ x l=z at e0 ⊢;refine gm tv42 23 [0,1,2] fun B2=>?_;refine loop (ι:=Nat×Ai_) [2,4,6,11,12] [0,1] (fun ⟨k,x1⟩=>[(13, .int .i64 (k:Int))]) (fun ⟨k,x1⟩=>[(2, .box (B2 2) 30 (Ai_.pc x1))]) (fun ⟨k,x1⟩=>k<=l.length/\z=Q_ x (l.drop k) x1/\x1.l.length<=1000) (fun ⟨k,x1⟩=>l.length-k) ⟨0,x⟩ ⟨rfl,trivial⟩ ⟨rfl,trivial⟩ ?_ ?_
  · exact⟨Nat.zero_le _,e0,(by first|omega|(simp;done)|(simp;omega))⟩
  rintro⟨k,x1⟩ ⟨hp5_1,hp5_2,hp5_3⟩;refine gx tv42 6 ?_;refine cn rfl (fun p7=>?_) fun p32=>?_
  · have e8:=Bz_ (f:=fun zz=>Q_ x zz x1) hp5_2 (Ec_ (by omega)) (Q_.eq_2 _ _ _ _);have hc9:=getG (xs:=l) (k:=k) (by omega);refine gx tv42 6 ?_;refine q1 (qidx tv42 k rfl rfl rfl hc9 rfl rfl rfl rfl) rfl fun w10=>?_;refine gm tv42 10 [3] fun B12=>?_;refine cV e8 R0_ (Fg_ _ _) rfl fun r hr13 e15 w14=>?_;have hA15:=V6_ x1 (gt l k)
    (try rw[<- hr13] at hA15)
    have hA16:=Oi_ x1 (gt l k)
    (try rw[<- hr13] at hA16)
    refine gx tv42 9 ?_;refine cN e15 (fun p20 e21=>?_) (fun p24 e25=>?_)
    · refine gm tv42 15 [] fun _=>?_;subst e21;exact qr2
    refine gx tv42 2 ?_;refine aN [4,5,6,7,8,9] 9 mixd ?_;refine gX tv42 [0,1,2] 6 ?_;refine vE 3 rfl (eC (Fm_ _) rfl ?_);generalize hr27:Cj_ (gt l k)=r1;intro w26;have e28:=e25.trans (If_ hr27.symm);refine vE 4 rfl (bsl 4 DeedR.pc [r1] tv42 rfl rfl rfl rfl rfl (fun _=>rfl) rfl (by decide) (by decide) rfl fun u29=>?_);refine vE 5 rfl (O2_ 4 rfl (bsl 4 (slc DeedR.pc) [x1.l,[r1]] tv42 rfl rfl rfl rfl rfl (fun _=>rfl) rfl (by decide) (by decide) rfl fun u30=>?_));refine vE 6 rfl (O2_ 4 rfl (Us_ (eC (Mm_ _) rfl fun w31=>?_)));refine gX tv42 [7] 1 ?_;refine vT 8 rfl (sA tv42 ?_);refine vD ?_;refine gy tv42 6 ?_;refine next ⟨(k+1),(⟨[x1.l,[r1]].flatten⟩:Ai_)⟩ rfl rfl ⟨rfl,trivial⟩ ⟨rfl,trivial⟩ ?_ ?_
    · (try simp only[]);omega
    exact⟨by (try simp only[]);omega,e28,(by (try simp only[List.length_append,List.length_cons,List.length_nil,List.flatten_cons,List.flatten_nil,List.append_nil,List.length_take,List.length_drop]);omega)⟩
  have e33:=Bz_ (f:=fun zz=>Q_ x zz x1) hp5_2 (D5_ (by omega)) (Q_.eq_1 _ _);refine gm tv42 13 [] fun _=>?_;subst e33;exact qr2
theorem Pr_ (x:Ai_) (tick:Int) (hx:x.l.length<=1000:=by first|omega|(simp;omega)|decide +kernel) (hh:∀ d∈x.l,d.mail.head.length<=1000000:=by assumption):Fo Tryz.prog gb 191 [.agg (Ai_.pc x), .int .u64 tick] (fun u=> .val u) 29 53 DeedR.pc (D0_ x tick):=by
  refine Mv_ tv42 Tryz.func191 rfl Tryz.ntmps191 rfl cb191 (fun _=>rfl) rfl fun w N H hG=>?_;have e0:=D0_.eq_1 x tick;refine gm tv42 21 [0] fun B2=>?_;refine sw_own (t:=5) (k:=29) (e:=53) 1 DeedR.pc rfl rfl ?_;refine loop (ι:=Nat×(List DeedR)×Value) [1,4,9,10] [0] (fun ⟨k,out,u_out⟩=>[(11, .int .i64 (k:Int)),(5, .osl 1)]) (fun ⟨k,out,u_out⟩=>[(1, .arr u_out 29 53 DeedR.pc out)]) (fun ⟨k,out,u_out⟩=>k<=x.l.length/\D0_ x tick=Ar_ tick (x.l.drop k) out/\out.length<=k) (fun ⟨k,out,u_out⟩=>x.l.length-k) ⟨0,[],(.slice none 0 0)⟩ ⟨rfl,rfl,trivial⟩ ⟨rfl,trivial⟩ ?_ ?_
  · exact⟨Nat.zero_le _,e0,(by first|omega|(simp;done)|(simp;omega))⟩
  rintro⟨k,out,u_out⟩ ⟨hp3_1,hp3_2,hp3_3⟩;refine gx tv42 6 ?_;refine cn rfl (fun p5=>?_) fun p26=>?_
  · have e6:=Bz_ (f:=fun zz=>Ar_ tick zz out) hp3_2 (Ec_ (by omega)) (Ar_.eq_2 _ _ _ _);have hc7:=getG (xs:=x.l) (k:=k) (by omega);have hh_hc7:=hh (gt x.l k) (List.mem_of_getElem? hc7);refine gx tv42 6 ?_;refine q1 (qidx tv42 k rfl rfl rfl hc7 rfl rfl rfl rfl) rfl fun w8=>?_;refine gm tv42 8 [2] fun B10=>?_;refine cV e6 R1_ (Fm_ _) rfl fun r hr11 e13 w12=>?_;refine gm tv42 18 [] fun _=>?_;refine cD e13 (fun p16 e17=>?_) (fun p22 e23=>?_)
    · refine gx tv42 5 ?_;refine call (Gv_ _ _) rfl rfl fun w18=>?_;refine gm tv42 8 [] fun _=>?_;refine ef (bsl 3 DeedR.pc [(⟨r.kind,tick,r.shop,r.queue,r.bind,r.name,r.id,r.how,r.frm,r.code,r.number,(⟨r.mail.id,r.mail.shop,r.mail.key,r.mail.head,r.mail.body,Fi_ tick r.mail.due,r.mail.hops⟩:Mail),r.text⟩:DeedR)] tv42 rfl rfl rfl rfl rfl (fun _=>rfl) rfl (by decide) (by decide) rfl fun u20=>?_);refine ef (app tv42 [(⟨r.kind,tick,r.shop,r.queue,r.bind,r.name,r.id,r.how,r.frm,r.code,r.number,(⟨r.mail.id,r.mail.shop,r.mail.key,r.mail.head,r.mail.body,Fi_ tick r.mail.due,r.mail.hops⟩:Mail),r.text⟩:DeedR)] rfl rfl rfl rfl rfl rfl rfl rfl rfl (src_o rfl rfl) (by first|omega|(simp;omega)) rfl fun u21=>?_);refine gy tv42 8 ?_;refine next ⟨(k+1),(out++[(⟨r.kind,tick,r.shop,r.queue,r.bind,r.name,r.id,r.how,r.frm,r.code,r.number,(⟨r.mail.id,r.mail.shop,r.mail.key,r.mail.head,r.mail.body,Fi_ tick r.mail.due,r.mail.hops⟩:Mail),r.text⟩:DeedR)]),(u21)⟩ rfl rfl ⟨rfl,rfl,trivial⟩ ⟨rfl,trivial⟩ ?_ ?_
      · (try simp only[]);omega
      exact⟨by (try simp only[]);omega,e17,(by (try simp only[List.length_append,List.length_cons,List.length_nil,List.flatten_cons,List.flatten_nil,List.append_nil,List.length_take,List.length_drop]);omega)⟩
    refine gx tv42 5 ?_;refine ef (bsl 3 DeedR.pc [(⟨r.kind,tick,r.shop,r.queue,r.bind,r.name,r.id,r.how,r.frm,r.code,r.number,r.mail,r.text⟩:DeedR)] tv42 rfl rfl rfl rfl rfl (fun _=>rfl) rfl (by decide) (by decide) rfl fun u24=>?_);refine ef (app tv42 [(⟨r.kind,tick,r.shop,r.queue,r.bind,r.name,r.id,r.how,r.frm,r.code,r.number,r.mail,r.text⟩:DeedR)] rfl rfl rfl rfl rfl rfl rfl rfl rfl (src_o rfl rfl) (by first|omega|(simp;omega)) rfl fun u25=>?_);refine gy tv42 8 ?_;refine next ⟨(k+1),(out++[(⟨r.kind,tick,r.shop,r.queue,r.bind,r.name,r.id,r.how,r.frm,r.code,r.number,r.mail,r.text⟩:DeedR)]),(u25)⟩ rfl rfl ⟨rfl,rfl,trivial⟩ ⟨rfl,trivial⟩ ?_ ?_
    · (try simp only[]);omega
    exact⟨by (try simp only[]);omega,e23,(by (try simp only[List.length_append,List.length_cons,List.length_nil,List.flatten_cons,List.flatten_nil,List.append_nil,List.length_take,List.length_drop]);omega)⟩
  have e27:=Bz_ (f:=fun zz=>Ar_ tick zz out) hp3_2 (D5_ (by omega)) (Ar_.eq_1 _ _);refine gx tv42 11 ?_;refine sw_val (t:=4) (i:=1) rfl rfl ?_;refine gx tv42 1 ?_;refine ro1 (j:=1) rfl rfl rfl ?_;exact (congrArg (fun r:(List DeedR)=>r) e27).symm
theorem O7_ (x:List DeedR) (l:List DeedR) (hx:x.length<=1000:=by first|omega|(simp;omega)|decide +kernel):Fn Tryz.prog gb 100 [.sl DeedR.pc x, .sl DeedR.pc l] (.tup [.sl DeedR.pc ((Ew_ x l).1), .int .i64 ((Ew_ x l).2)]):=by
  refine fC Tryz.func100 tv42 Tryz.ntmps100 fun w N H hG=>?_;have x_l:x.length<=140737488355328:=w.1.1;have l_l:l.length<=140737488355328:=w.2.1.1;have e0:=Ew_.eq_1 x l;generalize Ew_ x l=z at e0 ⊢;refine gx tv42 15 ?_;refine ef (app0 0 tv42 x rfl rfl rfl rfl rfl rfl rfl (src_l rfl (fun _=>rfl)) (by first|omega|(simp;omega)) rfl rfl fun u1=>?_);refine gx tv42 12 ?_;refine loop (ι:=Nat×(List DeedR)×Value) [0,13,14] [] (fun ⟨k,out,u_out⟩=>[(15, .int .i64 (k:Int)),(6, .osl 0)]) (fun ⟨k,out,u_out⟩=>[(0, .arr u_out 29 184 DeedR.pc out)]) (fun ⟨k,out,u_out⟩=>k<=l.length/\z=Bh_ x (l.drop k) out/\out.length<=1000) (fun ⟨k,out,u_out⟩=>l.length-k) ⟨0,x,(u1)⟩ ⟨rfl,rfl,trivial⟩ ⟨rfl,trivial⟩ ?_ ?_
  · exact⟨Nat.zero_le _,e0,(by first|omega|(simp;done)|(simp;omega))⟩
  rintro⟨k,out,u_out⟩ ⟨hp2_1,hp2_2,hp2_3⟩;refine gx tv42 6 ?_;refine cn rfl (fun p4=>?_) fun p50=>?_
  · have e5:=Bz_ (f:=fun zz=>Bh_ x zz out) hp2_2 (Ec_ (by omega)) (Bh_.eq_2 _ _ _ _);have hc6:=getG (xs:=l) (k:=k) (by omega);refine gx tv42 6 ?_;refine q1 (qidx tv42 k rfl rfl rfl hc6 rfl rfl rfl rfl) rfl fun w7=>?_;refine gmy tv42 18 [1] fun B9=>?_;refine cE e5 (fun h10 e17=>?_) (fun h10 e18=>?_)
    · have h11:=bl h10;have h12:=Bd_ h11;have p13:=df h12;have h14:=br h10;have h15:=Bd_ h14;have p16:=df h15;refine gx tv42 14 ?_;subst e17;exact qr2
    refine gx tv42 5 ?_;refine call (Qh_ _) rfl rfl fun w19=>?_;have :=J1_ (gt l k);refine gx tv42 10 ?_;refine cN e18 (fun p22 e23=>?_) (fun p25 e26=>?_)
    · refine gx tv42 15 ?_;subst e23;exact qr2
    refine gx tv42 9 ?_;refine bcase (decide (((gt l k).kind)=8)) (fun h27=>?_) (fun h27=>?_)
    · have p28:=dt h27;have e29:=e26.trans (condT h27);refine so_rt (t:=36) (p':= .bool true) (ple (congrArg PV.bool h27)) rfl ?_;refine so_rt (t:=37) (p':= .bool true) (ple (congrArg PV.bool h27)) rfl ?_;refine ungd rfl rfl ?_;refine gx tv42 1 ?_;refine ungd rfl rfl ?_;refine gx tv42 1 ?_;refine ungd rfl rfl ?_;refine gx tv42 1 ?_;refine ungd rfl rfl ?_;refine gx tv42 1 ?_;refine ungd rfl rfl ?_;refine gx tv42 1 ?_;refine ungd rfl rfl ?_;refine ef (calll 0 rfl (Fk_ _ _ _) rfl rfl rfl fun w30=>?_);refine gx tv42 3 ?_;refine cE e29 (fun h31 e32=>?_) (fun h31 e33=>?_)
      · refine gx tv42 14 ?_;subst e32;exact qr2
      refine gx tv42 10 ?_;refine cD e33 (fun p35 e36=>?_) (fun p37 e38=>?_)
      · refine gx tv42 14 ?_;subst e36;exact qr2
      refine gx tv42 5 ?_;refine ef (bsl 2 DeedR.pc [(gt l k)] tv42 rfl rfl rfl rfl rfl (fun _=>rfl) rfl (by decide) (by decide) rfl fun u39=>?_);refine ef (app tv42 [(gt l k)] rfl rfl rfl rfl rfl rfl rfl rfl rfl (src_o rfl rfl) (by first|omega|(simp;omega)) rfl fun u40=>?_);refine gy tv42 8 ?_;refine next ⟨(k+1),(out++[(gt l k)]),(u40)⟩ rfl rfl ⟨rfl,rfl,trivial⟩ ⟨rfl,trivial⟩ ?_ ?_
      · (try simp only[]);omega
      exact⟨by (try simp only[]);omega,e38,(by (try simp only[List.length_append,List.length_cons,List.length_nil,List.flatten_cons,List.flatten_nil,List.append_nil,List.length_take,List.length_drop]);omega)⟩
    have p41:=df h27;have e42:=e26.trans (condF h27);refine so_rt (t:=36) (p':= .bool false) (ple (congrArg PV.bool h27)) rfl ?_;refine so_rt (t:=37) (p':= .bool false) (ple (congrArg PV.bool h27)) rfl ?_;refine ungs rfl rfl rfl ?_;refine ungs rfl rfl rfl ?_;refine ungs rfl rfl rfl ?_;refine ungs rfl rfl rfl ?_;refine ungs rfl rfl rfl ?_;refine ungs rfl rfl rfl ?_;refine gx tv42 14 ?_;refine cD e42 (fun p44 e45=>?_) (fun p46 e47=>?_)
    · refine gx tv42 14 ?_;subst e45;exact qr2
    refine gx tv42 5 ?_;refine ef (bsl 2 DeedR.pc [(gt l k)] tv42 rfl rfl rfl rfl rfl (fun _=>rfl) rfl (by decide) (by decide) rfl fun u48=>?_);refine ef (app tv42 [(gt l k)] rfl rfl rfl rfl rfl rfl rfl rfl rfl (src_o rfl rfl) (by first|omega|(simp;omega)) rfl fun u49=>?_);refine gy tv42 8 ?_;refine next ⟨(k+1),(out++[(gt l k)]),(u49)⟩ rfl rfl ⟨rfl,rfl,trivial⟩ ⟨rfl,trivial⟩ ?_ ?_
    · (try simp only[]);omega
    exact⟨by (try simp only[]);omega,e47,(by (try simp only[List.length_append,List.length_cons,List.length_nil,List.flatten_cons,List.flatten_nil,List.append_nil,List.length_take,List.length_drop]);omega)⟩
  have e51:=Bz_ (f:=fun zz=>Bh_ x zz out) hp2_2 (D5_ (by omega)) (Bh_.eq_1 _ _);refine gx tv42 12 ?_;refine givec 0 rfl ?_;refine gx tv42 1 ?_;subst e51;exact qr2
theorem r26_At_ok (x:List DeedR) (tick:Int) (hx:x.length<=1000:=by first|omega|(simp;omega)|decide +kernel):Fn Tryz.prog gb 237 [.sl DeedR.pc x, .int .u64 tick] (.sl DeedR.pc (Qv_ x tick)):=by
  refine fC Tryz.func237 tv42 Tryz.ntmps237 fun w N H hG=>?_;have e0:=Qv_.eq_1 x tick;refine gx tv42 19 ?_;refine sw_own (t:=5) (k:=29) (e:=184) 0 DeedR.pc rfl rfl ?_;refine loop (ι:=Nat×(List DeedR)×Value) [1,4,8,9] [] (fun ⟨k,out,u_out⟩=>[(10, .int .i64 (k:Int)),(5, .osl 0)]) (fun ⟨k,out,u_out⟩=>[(0, .arr u_out 29 184 DeedR.pc out)]) (fun ⟨k,out,u_out⟩=>k<=x.length/\Qv_ x tick=C7_ tick (x.drop k) out/\out.length<=k) (fun ⟨k,out,u_out⟩=>x.length-k) ⟨0,[],(.slice none 0 0)⟩ ⟨rfl,rfl,trivial⟩ ⟨rfl,trivial⟩ ?_ ?_
  · exact⟨Nat.zero_le _,e0,(by first|omega|(simp;done)|(simp;omega))⟩
  rintro⟨k,out,u_out⟩ ⟨hp1_1,hp1_2,hp1_3⟩;refine gx tv42 6 ?_;refine cn rfl (fun p3=>?_) fun p20=>?_
  · have e4:=Bz_ (f:=fun zz=>C7_ tick zz out) hp1_2 (Ec_ (by omega)) (C7_.eq_2 _ _ _ _);have hc5:=getG (xs:=x) (k:=k) (by omega);refine gx tv42 6 ?_;refine q1 (qidx tv42 k rfl rfl rfl hc5 rfl rfl rfl rfl) rfl fun w6=>?_;refine gm tv42 20 [1] fun B8=>?_;refine cD e4 (fun p10 e11=>?_) (fun p16 e17=>?_)
    · refine gx tv42 5 ?_;refine call (Ty_ _ _) rfl rfl fun w12=>?_;refine gm tv42 8 [] fun _=>?_;refine ef (bsl 2 DeedR.pc [(⟨(gt x k).kind,tick,(gt x k).shop,(gt x k).queue,(gt x k).bind,(gt x k).name,(gt x k).id,(gt x k).how,(gt x k).frm,(gt x k).code,(gt x k).number,(⟨(gt x k).mail.id,(gt x k).mail.shop,(gt x k).mail.key,(gt x k).mail.head,(gt x k).mail.body,Fi_ tick ((gt x k).mail.due),(gt x k).mail.hops⟩:Mail),(gt x k).text⟩:DeedR)] tv42 rfl rfl rfl rfl rfl (fun _=>rfl) rfl (by decide) (by decide) rfl fun u14=>?_);refine ef (app tv42 [(⟨(gt x k).kind,tick,(gt x k).shop,(gt x k).queue,(gt x k).bind,(gt x k).name,(gt x k).id,(gt x k).how,(gt x k).frm,(gt x k).code,(gt x k).number,(⟨(gt x k).mail.id,(gt x k).mail.shop,(gt x k).mail.key,(gt x k).mail.head,(gt x k).mail.body,Fi_ tick ((gt x k).mail.due),(gt x k).mail.hops⟩:Mail),(gt x k).text⟩:DeedR)] rfl rfl rfl rfl rfl rfl rfl rfl rfl (src_o rfl rfl) (by first|omega|(simp;omega)) rfl fun u15=>?_);refine gy tv42 8 ?_;refine next ⟨(k+1),(out++[(⟨(gt x k).kind,tick,(gt x k).shop,(gt x k).queue,(gt x k).bind,(gt x k).name,(gt x k).id,(gt x k).how,(gt x k).frm,(gt x k).code,(gt x k).number,(⟨(gt x k).mail.id,(gt x k).mail.shop,(gt x k).mail.key,(gt x k).mail.head,(gt x k).mail.body,Fi_ tick ((gt x k).mail.due),(gt x k).mail.hops⟩:Mail),(gt x k).text⟩:DeedR)]),(u15)⟩ rfl rfl ⟨rfl,rfl,trivial⟩ ⟨rfl,trivial⟩ ?_ ?_
      · (try simp only[]);omega
      exact⟨by (try simp only[]);omega,e11,(by (try simp only[List.length_append,List.length_cons,List.length_nil,List.flatten_cons,List.flatten_nil,List.append_nil,List.length_take,List.length_drop]);omega)⟩
    refine gx tv42 5 ?_;refine ef (bsl 2 DeedR.pc [(⟨(gt x k).kind,tick,(gt x k).shop,(gt x k).queue,(gt x k).bind,(gt x k).name,(gt x k).id,(gt x k).how,(gt x k).frm,(gt x k).code,(gt x k).number,(gt x k).mail,(gt x k).text⟩:DeedR)] tv42 rfl rfl rfl rfl rfl (fun _=>rfl) rfl (by decide) (by decide) rfl fun u18=>?_);refine ef (app tv42 [(⟨(gt x k).kind,tick,(gt x k).shop,(gt x k).queue,(gt x k).bind,(gt x k).name,(gt x k).id,(gt x k).how,(gt x k).frm,(gt x k).code,(gt x k).number,(gt x k).mail,(gt x k).text⟩:DeedR)] rfl rfl rfl rfl rfl rfl rfl rfl rfl (src_o rfl rfl) (by first|omega|(simp;omega)) rfl fun u19=>?_);refine gy tv42 8 ?_;refine next ⟨(k+1),(out++[(⟨(gt x k).kind,tick,(gt x k).shop,(gt x k).queue,(gt x k).bind,(gt x k).name,(gt x k).id,(gt x k).how,(gt x k).frm,(gt x k).code,(gt x k).number,(gt x k).mail,(gt x k).text⟩:DeedR)]),(u19)⟩ rfl rfl ⟨rfl,rfl,trivial⟩ ⟨rfl,trivial⟩ ?_ ?_
    · (try simp only[]);omega
    exact⟨by (try simp only[]);omega,e17,(by (try simp only[List.length_append,List.length_cons,List.length_nil,List.flatten_cons,List.flatten_nil,List.append_nil,List.length_take,List.length_drop]);omega)⟩
  have e21:=Bz_ (f:=fun zz=>C7_ tick zz out) hp1_2 (D5_ (by omega)) (C7_.eq_1 _ _);refine gx tv42 11 ?_;refine givec 0 rfl ?_;refine gx tv42 1 ?_;exact rt1 rfl rfl (Cx_ (fun r:(List DeedR)=> .sl DeedR.pc r) e21 (ple rfl))
theorem I4_ (l:List DeedR) (hl:l.length<=100000000:=by first|omega|(simp;omega)|decide +kernel):Fn Tryz.prog gb 34 [.sl DeedR.pc l] (.tup [.sl DeedR.pc ((Ev_ l).1), .bool ((Ev_ l).2)]):=by
  refine fC Tryz.func34 tv42 Tryz.ntmps34 fun w N H hG=>?_;have e0:=Ev_.eq_1 l;generalize Ev_ l=z at e0 ⊢;refine gx tv42 20 ?_;refine sw_own (t:=4) (k:=29) (e:=184) 0 DeedR.pc rfl rfl ?_;refine loop (ι:=Nat×(List DeedR)×Value) [7,8] [] (fun ⟨k,out,u_out⟩=>[(9, .int .i64 (k:Int)),(4, .osl 0)]) (fun ⟨k,out,u_out⟩=>[(0, .arr u_out 29 184 DeedR.pc out)]) (fun ⟨k,out,u_out⟩=>k<=l.length/\z=B6_ (l.drop k) out/\out.length<=k) (fun ⟨k,out,u_out⟩=>l.length-k) ⟨0,[],(.slice none 0 0)⟩ ⟨rfl,rfl,trivial⟩ ⟨rfl,trivial⟩ ?_ ?_
  · exact⟨Nat.zero_le _,e0,(by first|omega|(simp;done)|(simp;omega))⟩
  rintro⟨k,out,u_out⟩ ⟨hp1_1,hp1_2,hp1_3⟩;refine gx tv42 6 ?_;refine cn rfl (fun p3=>?_) fun p18=>?_
  · have e4:=Bz_ (f:=fun zz=>B6_ zz out) hp1_2 (Ec_ (by omega)) (B6_.eq_2 _ _ _);have hc5:=getG (xs:=l) (k:=k) (by omega);refine gx tv42 6 ?_;refine q1 (qidx tv42 k rfl rfl rfl hc5 rfl rfl rfl rfl) rfl fun w6=>?_;refine gm tv42 9 [1] fun B8=>?_;refine call (Kx_ _) rfl rfl fun w9=>?_;have hld9:=E3_ (gt l k);refine gx tv42 3 ?_;refine cE e4 (fun h10 e12=>?_) (fun h10 e14=>?_)
    · have h11:=Bd_ h10;refine gx tv42 13 ?_;subst e12;exact rt2 rfl rfl (Il_ (Ac_ Cy_ (Ac_ (ple rfl) C5_)))
    have h13:=Bb_ h10;refine gx tv42 5 ?_;refine call (l22_To _ (by first|omega|(have :=E3_ (gt l k) (by assumption);omega))) rfl rfl fun w15=>?_;refine ef (bsl 2 DeedR.pc [(gt l k)] tv42 rfl rfl rfl rfl rfl (fun _=>rfl) rfl (by decide) (by decide) rfl fun u16=>?_);refine ef (app tv42 [(gt l k)] rfl rfl rfl rfl rfl rfl rfl rfl rfl (src_o rfl rfl) (by first|omega|(simp;omega)) rfl fun u17=>?_);refine gy tv42 8 ?_;refine next ⟨(k+1),(out++[(gt l k)]),(u17)⟩ rfl rfl ⟨rfl,rfl,trivial⟩ ⟨rfl,trivial⟩ ?_ ?_
    · (try simp only[]);omega
    exact⟨by (try simp only[]);omega,e14,(by (try simp only[List.length_append,List.length_cons,List.length_nil,List.flatten_cons,List.flatten_nil,List.append_nil,List.length_take,List.length_drop]);omega)⟩
  have e19:=Bz_ (f:=fun zz=>B6_ zz out) hp1_2 (D5_ (by omega)) (B6_.eq_1 _);refine gx tv42 12 ?_;refine givec 0 rfl ?_;refine gx tv42 1 ?_;subst e19;exact qr2
theorem Mc_ (l:List DeedR):Fn Tryz.prog gb 39 [.sl DeedR.pc l] (.bool (Cp_ l)):=by
  refine fC Tryz.func39 tv42 Tryz.ntmps39 fun w N H hG=>?_;have l_l:l.length<=140737488355328:=w.1.1;have e0:=Cp_.eq_1 l;generalize Cp_ l=z at e0 ⊢;refine gx tv42 14 ?_;refine loop (ι:=Nat) [0,5,6] [] (fun k=>[(7, .int .i64 (k:Int))]) (fun k=>[]) (fun k=>k<=l.length/\z=A3_ l (l.drop k)) (fun k=>l.length-k) 0 ⟨rfl,trivial⟩ trivial ?_ ?_
  · exact⟨Nat.zero_le _,e0⟩
  rintro k ⟨hp1_1,hp1_2⟩;refine gx tv42 6 ?_;refine cn rfl (fun p3=>?_) fun p15=>?_
  · have e4:=Bz_ (f:=fun zz=>A3_ l zz) hp1_2 (Ec_ (by omega)) (A3_.eq_2 _ _ _);have hc5:=getG (xs:=l) (k:=k) (by omega);refine gx tv42 6 ?_;refine q1 (qidx tv42 k rfl rfl rfl hc5 rfl rfl rfl rfl) rfl fun w6=>?_;refine gm tv42 8 [0] fun B8=>?_;refine call (Kx_ _) rfl rfl fun w9=>?_;have hld9:=E3_ (gt l k);refine gx tv42 3 ?_;refine cE e4 (fun h10 e12=>?_) (fun h10 e14=>?_)
    · have h11:=Bd_ h10;refine gx tv42 11 ?_;subst e12;exact qr1
    have h13:=Bb_ h10;refine gy tv42 7 ?_;refine next (k+1) rfl rfl ⟨rfl,trivial⟩ trivial ?_ ?_
    · (try simp only[]);omega
    exact⟨by (try simp only[]);omega,e14⟩
  have e16:=Bz_ (f:=fun zz=>A3_ l zz) hp1_2 (D5_ (by omega)) (A3_.eq_1 _);refine gx tv42 14 ?_;subst e16;exact qr1
theorem Iu_ (a:List DeedR) (b:List DeedR):Fn Tryz.prog gb 35 [.sl DeedR.pc a, .sl DeedR.pc b] (.bool (Ei_ a b)):=by
  refine fC Tryz.func35 tv42 Tryz.ntmps35 fun w N H hG=>?_;have a_l:a.length<=140737488355328:=w.1.1;have b_l:b.length<=140737488355328:=w.2.1.1;have e0:=Ei_.eq_1 a b;generalize Ei_ a b=z at e0 ⊢;refine gx tv42 15 ?_;refine cN e0 (fun p3 e4=>?_) (fun p6 e7=>?_)
  · refine gx tv42 7 ?_;subst e4;exact qr1
  refine gx tv42 11 ?_;refine loop (ι:=Nat) [0,1,12] [] (fun k=>[(13, .int .i64 (k:Int))]) (fun k=>[]) (fun k=>k<=a.length/\z=Bu_ b (a.drop k) k) (fun k=>a.length-k) 0 ⟨rfl,trivial⟩ trivial ?_ ?_
  · exact⟨Nat.zero_le _,e7⟩
  rintro k ⟨hp8_1,hp8_2⟩;refine gx tv42 6 ?_;refine cn rfl (fun p10=>?_) fun p24=>?_
  · have e11:=Bz_ (f:=fun zz=>Bu_ b zz k) hp8_2 (Ec_ (by omega)) (Bu_.eq_2 _ _ _ _);refine gx tv42 11 ?_;refine aN [0,1,2,3,4,5] 10 mixd ?_;refine gX tv42 [0,1] 8 ?_;have hc12:=getG (xs:=a) (k:=k) (by omega);refine vq 2 (qidx tv42 k rfl rfl rfl hc12 rfl rfl rfl rfl) rfl (by kernel_rfl) rfl fun w13=>?_;refine gX tv42 [3,4,5] 4 ?_;have hc14:=getG (xs:=b) (k:=k) (by omega);refine vq 6 (qidx tv42 k rfl rfl rfl hc14 rfl rfl rfl rfl) rfl (by kernel_rfl) rfl fun w15=>?_;refine gX tv42 [7] 2 ?_;refine vC 8 rfl (Vk_ _ _) rfl fun w16=>?_;refine gX tv42 [9] 0 ?_;refine vD ?_;refine gx tv42 1 ?_;refine cN e11 (fun p19 e20=>?_) (fun p22 e23=>?_)
    · refine gx tv42 11 ?_;subst e20;exact qr1
    refine gy tv42 7 ?_;refine next (k+1) rfl rfl ⟨rfl,trivial⟩ trivial ?_ ?_
    · (try simp only[]);omega
    exact⟨by (try simp only[]);omega,e23⟩
  have e25:=Bz_ (f:=fun zz=>Bu_ b zz k) hp8_2 (D5_ (by omega)) (Bu_.eq_1 _ _);refine gx tv42 11 ?_;subst e25;exact qr1
theorem F3_ (c:ChanR) (tag:Int) (queue:Bs) (ht:c.takers.length<=1000:=by first|omega|(simp;omega)|decide +kernel):Fn Tryz.prog gb 44 [.agg (ChanR.pc c), .int .u64 tag, .str queue] (.tup [.agg (ChanR.pc ((At_ c tag queue).1)), .int .i64 ((At_ c tag queue).2)]):=by
  refine fC Tryz.func44 tv42 Tryz.ntmps44 fun w N H hG=>?_;have e0:=At_.eq_1 c tag queue;generalize At_ c tag queue=z at e0 ⊢;refine gm tv42 16 [0,1] fun B2=>?_;refine cD e0 (fun p5 e6=>?_) (fun p8 e9=>?_)
  · refine gm tv42 10 [] fun _=>?_;subst e6;exact qr2
  refine gx tv42 4 ?_;refine cV e9 R0_ (Er_ _ _) rfl fun r hr10 e12 w11=>?_;have hA12:=I3_ c tag
  (try rw[<- hr10] at hA12)
  refine gx tv42 4 ?_;refine cD e12 (fun p15 e16=>?_) (fun p18 e19=>?_)
  · refine gm tv42 10 [] fun _=>?_;subst e16;exact qr2
  refine gx tv42 9 ?_;refine cD e19 (fun p21 e22=>?_) (fun p24 e25=>?_)
  · refine gm tv42 10 [] fun _=>?_;subst e22;exact qr2
  refine gx tv42 10 ?_;refine ef (bsl 2 I_.pc [(⟨tag,queue⟩:I_)] tv42 rfl rfl rfl rfl rfl (fun _=>rfl) rfl (by decide) (by decide) rfl fun u26=>?_);refine give 2 rfl ?_;refine ef (bsl 2 (slc I_.pc) [c.takers,[(⟨tag,queue⟩:I_)]] tv42 rfl rfl rfl rfl rfl (fun _=>rfl) rfl (by decide) (by decide) rfl fun u27=>?_);refine give 2 rfl ?_;refine call (Hc_ _) rfl rfl fun w28=>?_;refine gm tv42 12 [] fun _=>?_;subst e25;exact qr2
theorem Fx_ (c:ChanR) (tag:Int) (ht:c.takers.length<=1000:=by first|omega|(simp;omega)|decide +kernel):Fn Tryz.prog gb 46 [.agg (ChanR.pc c), .int .u64 tag] (.tup [.agg (ChanR.pc ((Ap_ c tag).1)), .int .i64 ((Ap_ c tag).2)]):=by
  refine fC Tryz.func46 tv42 Tryz.ntmps46 fun w N H hG=>?_;have e0:=Ap_.eq_1 c tag;generalize Ap_ c tag=z at e0 ⊢;refine gm tv42 11 [0,1] fun B2=>?_;refine cV e0 R0_ (Er_ _ _) rfl fun r hr4 e6 w5=>?_;have hA6:=I3_ c tag
  (try rw[<- hr4] at hA6)
  refine gx tv42 10 ?_;refine cD e6 (fun p9 e10=>?_) (fun p12 e13=>?_)
  · refine gm tv42 9 [] fun _=>?_;subst e10;exact qr2
  refine gx tv42 3 ?_;refine aN [2,3,4,5,6,7] 13 mixd ?_;refine gX tv42 [0,1,2] 10 ?_;refine vq 3 (lshi tv42 (r).toNat rfl rfl rfl rfl rfl (fun _=>rfl) (by omega) (by omega)) rfl (by kernel_rfl) rfl fun w14=>?_;refine gXy tv42 [4,5,6,7] 5 ?_;refine vq 8 (lslo tv42 ((r+1)).toNat rfl rfl rfl rfl rfl (fun _=>rfl) (by omega) (by omega)) rfl (by kernel_rfl) rfl fun w15=>?_;refine vE 9 rfl (bsl 2 (slc I_.pc) [(c.takers.take (r).toNat),(c.takers.drop ((r+1)).toNat)] tv42 rfl rfl rfl rfl rfl (fun _=>rfl) rfl (by decide) (by decide) rfl fun u16=>?_);refine vE 10 rfl (O2_ 2 rfl (Us_ (eC (Hc_ _) rfl fun w17=>?_)));refine gX tv42 [11] 1 ?_;refine vT 12 rfl (sO tv42 ?_);refine vD ?_;refine gm tv42 9 [] fun _=>?_;subst e13;exact qr2
theorem Cr_ (c:ChanR) (x:LentR) (hn:c.lent.length<=10000000:=by first|omega|(simp;omega)|decide +kernel):Fn Tryz.prog gb 10 [.agg (ChanR.pc c), .agg (LentR.pc x)] (.agg (ChanR.pc (Z_ c x))):=by
  refine fC Tryz.func10 tv42 Tryz.ntmps10 fun w N H hG=>?_;have e0:=Z_.eq_1 c x;refine gm tv42 12 [0,1,2] fun B2=>?_;refine ef (bsl 3 LentR.pc [x] tv42 rfl rfl rfl rfl rfl (fun _=>rfl) rfl (by decide) (by decide) rfl fun u5=>?_);refine give 3 rfl ?_;refine ef (bsl 3 (slc LentR.pc) [c.lent,[x]] tv42 rfl rfl rfl rfl rfl (fun _=>rfl) rfl (by decide) (by decide) rfl fun u6=>?_);refine give 3 rfl ?_;refine call (Ik_ _) rfl rfl fun w7=>?_;refine gm tv42 11 [] fun _=>?_;exact rt1 rfl rfl (Cx_ (fun r:ChanR=> .agg (ChanR.pc r)) e0 (ple rfl))
theorem Em_ (c:ChanR) (hn:c.lent.length<=10000000:=by first|omega|(simp;omega)|decide +kernel):Fn Tryz.prog gb 14 [.agg (ChanR.pc c)] (.sl LentR.pc (Bw_ c)):=by
  refine fC Tryz.func14 tv42 Tryz.ntmps14 fun w N H hG=>?_;have e0:=Bw_.eq_1 c;refine gm tv42 10 [0] fun B2=>?_;refine call (Ps_ _) rfl rfl fun w3=>?_;refine gx tv42 4 ?_;exact rt1 rfl rfl (Cx_ (fun r:(List LentR)=> .sl LentR.pc r) e0 (ple rfl))
theorem B9_ (c:ChanR) (id:Int) (how:Int) (upto:Bool) (hn:c.lent.length<=10000000:=by first|omega|(simp;omega)|decide +kernel):Fo Tryz.prog gb 11 [.agg (ChanR.pc c), .int .u64 id, .int .u64 how, .bool upto] (fun u=> .tup [.val u, .int .i64 ((D_ c id how upto).2)]) 29 53 DeedR.pc ((D_ c id how upto).1):=by
  refine Mv_ tv42 Tryz.func11 rfl Tryz.ntmps11 rfl cb11 (fun _=>rfl) rfl fun w N H hG=>?_;have e0:=D_.eq_1 c id how upto;refine gm tv42 14 [0] fun B2=>?_;refine cD e0 (fun p4 e5=>?_) (fun p6 e7=>?_)
  · refine gx tv42 6 ?_;refine sw_own (t:=8) (k:=29) (e:=53) 1 DeedR.pc rfl rfl ?_;refine sw_val (t:=8) (i:=1) rfl rfl ?_;refine gx tv42 2 ?_;refine roN (j:=1) (.slice none 0 0) rfl rfl rfl rfl ?_ ?_
    · exact (congrArg (fun r:(List DeedR)×Int=>r.1) e5).symm
    exact Cx_ (fun r:(List DeedR)×Int=> .tup [.val (.slice none 0 0), .int .i64 r.2]) e5 (ple rfl)
  refine gx tv42 17 ?_;refine sw_own (t:=10) (k:=29) (e:=53) 1 DeedR.pc rfl rfl ?_;refine loop (ι:=Nat×(List DeedR)×Value) [1,2,3,4,16,17] [0] (fun ⟨k,out,u_out⟩=>[(18, .int .i64 (k:Int)),(10, .osl 1)]) (fun ⟨k,out,u_out⟩=>[(1, .arr u_out 29 53 DeedR.pc out)]) (fun ⟨k,out,u_out⟩=>k<=c.lent.length/\D_ c id how upto=C_ c id how upto (c.lent.drop k) out/\out.length<=k) (fun ⟨k,out,u_out⟩=>c.lent.length-k) ⟨0,[],(.slice none 0 0)⟩ ⟨rfl,rfl,trivial⟩ ⟨rfl,trivial⟩ ?_ ?_
  · exact⟨Nat.zero_le _,e7,(by first|omega|(simp;done)|(simp;omega))⟩
  rintro⟨k,out,u_out⟩ ⟨hp8_1,hp8_2,hp8_3⟩;refine gx tv42 6 ?_;refine cn rfl (fun p10=>?_) fun p28=>?_
  · have e11:=Bz_ (f:=fun zz=>C_ c id how upto zz out) hp8_2 (Ec_ (by omega)) (C_.eq_2 _ _ _ _ _ _ _);have hc12:=getG (xs:=c.lent) (k:=k) (by omega);refine gx tv42 6 ?_;refine q1 (qidx tv42 k rfl rfl rfl hc12 rfl rfl rfl rfl) rfl fun w13=>?_;refine gmy tv42 17 [2] fun B15=>?_;refine callg rfl (fun hc=>(Cw_ _ _ _)) rfl ⟨(fun hc=>hc),(fun hc=>hc),(fun hc=>hc),trivial⟩ rfl rfl fun _=>?_;refine gy tv42 13 ?_;refine cE e11 (fun h16 e17=>?_) (fun h16 e20=>?_)
    · refine gy tv42 8 ?_;refine next ⟨(k+1),out,(u_out)⟩ rfl rfl ⟨rfl,rfl,trivial⟩ ⟨rfl,trivial⟩ ?_ ?_
      · (try simp only[]);omega
      exact⟨by (try simp only[]);omega,e17,(by (try simp only[List.length_append,List.length_cons,List.length_nil,List.flatten_cons,List.flatten_nil,List.append_nil,List.length_take,List.length_drop]);omega)⟩
    have h18:=orl h16;have h19:=orr h16;refine gx tv42 12 ?_;refine ef (bsl 3 DeedR.pc [(⟨8,0,(⟨[],0,[]⟩:ShopR),(⟨[],0,0,[]⟩:QueueR),(⟨[],[],false,[],[],false⟩:BindR),(gt c.lent k).queue,(gt c.lent k).id,(IntKind.wrap .u8 how),0,0,0,(⟨0,[],[],[],[],0,0⟩:Mail),[]⟩:DeedR)] tv42 rfl rfl rfl rfl rfl (fun _=>rfl) rfl (by decide) (by decide) rfl fun u21=>?_);refine ef (app tv42 [(⟨8,0,(⟨[],0,[]⟩:ShopR),(⟨[],0,0,[]⟩:QueueR),(⟨[],[],false,[],[],false⟩:BindR),(gt c.lent k).queue,(gt c.lent k).id,(IntKind.wrap .u8 how),0,0,0,(⟨0,[],[],[],[],0,0⟩:Mail),[]⟩:DeedR)] rfl rfl rfl rfl rfl rfl rfl rfl rfl (src_o rfl rfl) (by first|omega|(simp;omega)) rfl fun u22=>?_);refine gx tv42 11 ?_;refine cD e20 (fun p24 e25=>?_) (fun p26 e27=>?_)
    · refine gx tv42 7 ?_;refine sw_val (t:=8) (i:=1) rfl rfl ?_;refine gx tv42 6 ?_;refine roN (j:=1) u22 rfl rfl rfl rfl ?_ ?_
      · exact (congrArg (fun r:(List DeedR)×Int=>r.1) e25).symm
      exact Cx_ (fun r:(List DeedR)×Int=> .tup [.val u22, .int .i64 r.2]) e25 (ple rfl)
    refine gy tv42 7 ?_;refine next ⟨(k+1),(out++[(⟨8,0,(⟨[],0,[]⟩:ShopR),(⟨[],0,0,[]⟩:QueueR),(⟨[],[],false,[],[],false⟩:BindR),(gt c.lent k).queue,(gt c.lent k).id,(IntKind.wrap .u8 how),0,0,0,(⟨0,[],[],[],[],0,0⟩:Mail),[]⟩:DeedR)]),(u22)⟩ rfl rfl ⟨rfl,rfl,trivial⟩ ⟨rfl,trivial⟩ ?_ ?_
    · (try simp only[]);omega
    exact⟨by (try simp only[]);omega,e27,(by (try simp only[List.length_append,List.length_cons,List.length_nil,List.flatten_cons,List.flatten_nil,List.append_nil,List.length_take,List.length_drop]);omega)⟩
  have e29:=Bz_ (f:=fun zz=>C_ c id how upto zz out) hp8_2 (D5_ (by omega)) (C_.eq_1 _ _ _ _ _);refine gx tv42 11 ?_;refine sw_own (t:=8) (k:=29) (e:=53) 2 DeedR.pc rfl rfl ?_;refine sw_val (t:=8) (i:=2) rfl rfl ?_;refine gx tv42 1 ?_;refine roN (j:=2) (.slice none 0 0) rfl rfl rfl rfl ?_ ?_
  · exact (congrArg (fun r:(List DeedR)×Int=>r.1) e29).symm
  exact Cx_ (fun r:(List DeedR)×Int=> .tup [.val (.slice none 0 0), .int .i64 r.2]) e29 (ple rfl)
theorem Dx_ (c:ChanR) (l:List DeedR) (hn:c.lent.length<=10000000:=by first|omega|(simp;omega)|decide +kernel):Fn Tryz.prog gb 12 [.agg (ChanR.pc c), .sl DeedR.pc l] (.agg (ChanR.pc (Ao_ c l))):=by
  refine fC Tryz.func12 tv42 Tryz.ntmps12 fun w N H hG=>?_;have c_takers_l:c.takers.length<=140737488355328:=w.1.2.1.1;have c_lent_l:c.lent.length<=140737488355328:=w.1.2.2.1.1;have c_held_l_l:c.held.l.length<=140737488355328:=w.1.2.2.2.2.2.2.1.1;have l_l:l.length<=140737488355328:=w.2.1.1;have e0:=Ao_.eq_1 c l;refine gm tv42 15 [0,1] fun B2=>?_;refine loop (ι:=Nat×ChanR) [2,4,8,9] [1] (fun ⟨k,x⟩=>[(10, .int .i64 (k:Int))]) (fun ⟨k,x⟩=>[(0, .box (B2 0) 32 (ChanR.pc x))]) (fun ⟨k,x⟩=>k<=l.length/\Ao_ c l=E_ (l.drop k) x/\x.lent.length<=10000000) (fun ⟨k,x⟩=>l.length-k) ⟨0,c⟩ ⟨rfl,trivial⟩ ⟨rfl,trivial⟩ ?_ ?_
  · exact⟨Nat.zero_le _,e0,(by first|omega|(simp;done)|(simp;omega))⟩
  rintro⟨k,x⟩ ⟨hp4_1,hp4_2,hp4_3⟩;refine gx tv42 6 ?_;refine cn rfl (fun p6=>?_) fun p27=>?_
  · have e7:=Bz_ (f:=fun zz=>E_ zz x) hp4_2 (Ec_ (by omega)) (E_.eq_2 _ _ _);have hc8:=getG (xs:=l) (k:=k) (by omega);refine gx tv42 6 ?_;refine q1 (qidx tv42 k rfl rfl rfl hc8 rfl rfl rfl rfl) rfl fun w9=>?_;refine gm tv42 14 [2] fun B11=>?_;refine cV e7 R0_ (Pq_ _ (⟨(gt l k).id,(gt l k).name⟩:LentR)) rfl fun r hr12 e14 w13=>?_;have hA14:=G9_ (fun y=>decide ((⟨(gt l k).id,(gt l k).name⟩:LentR)=y)) x.lent
    (try rw[<- hr12] at hA14)
    refine gy tv42 14 ?_;refine cE e14 (fun h16 e21=>?_) (fun h16 e26=>?_)
    · have h17:=bl h16;have p18:=dt h17;have h19:=br h16;have p20:=dt h19;refine aN [3,4,5,6,7,8] 13 mixd ?_;refine gX tv42 [0,1,2] 10 ?_;refine vq 3 (lshi tv42 (r).toNat rfl rfl rfl rfl rfl (fun _=>rfl) (by omega) (by omega)) rfl (by kernel_rfl) rfl fun w22=>?_;refine gXy tv42 [4,5,6,7] 5 ?_;refine vq 8 (lslo tv42 ((r+1)).toNat rfl rfl rfl rfl rfl (fun _=>rfl) (by omega) (by omega)) rfl (by kernel_rfl) rfl fun w23=>?_;refine vE 9 rfl (bsl 3 (slc LentR.pc) [(x.lent.take (r).toNat),(x.lent.drop ((r+1)).toNat)] tv42 rfl rfl rfl rfl rfl (fun _=>rfl) rfl (by decide) (by decide) rfl fun u24=>?_);refine vE 10 rfl (O2_ 3 rfl (Us_ (eC (Ik_ _) rfl fun w25=>?_)));refine gX tv42 [11] 1 ?_;refine vT 12 rfl (sO tv42 ?_);refine vD ?_;refine gy tv42 6 ?_;refine next ⟨(k+1),(⟨x.credit,x.takers,[(x.lent.take (r).toNat),(x.lent.drop ((r+1)).toNat)].flatten,x.sure,x.drafts,x.puts,x.held⟩:ChanR)⟩ rfl rfl ⟨rfl,trivial⟩ ⟨rfl,trivial⟩ ?_ ?_
      · (try simp only[]);omega
      exact⟨by (try simp only[]);omega,e21,(by (try simp only[List.length_append,List.length_cons,List.length_nil,List.flatten_cons,List.flatten_nil,List.append_nil,List.length_take,List.length_drop]);omega)⟩
    refine gy tv42 7 ?_;refine next ⟨(k+1),x⟩ rfl rfl ⟨rfl,trivial⟩ ⟨rfl,trivial⟩ ?_ ?_
    · (try simp only[]);omega
    exact⟨by (try simp only[]);omega,e26,(by (try simp only[List.length_append,List.length_cons,List.length_nil,List.flatten_cons,List.flatten_nil,List.append_nil,List.length_take,List.length_drop]);omega)⟩
  have e28:=Bz_ (f:=fun zz=>E_ zz x) hp4_2 (D5_ (by omega)) (E_.eq_1 _);refine gm tv42 12 [] fun _=>?_;exact rt1 rfl rfl (Cx_ (fun r:ChanR=> .agg (ChanR.pc r)) e28 (ple rfl))
theorem Ml_ (c:ChanR) (tag:Int) (queue:Bs) (ht:c.takers.length<=1000:=by first|omega|(simp;omega)|decide +kernel):Fn Tryz.prog gb 45 [.agg (ChanR.pc c), .int .u64 tag, .str queue] (.tup [.agg (ChanR.pc ((Ee_ c tag queue).1)), .int .i64 ((Ee_ c tag queue).2)]):=by
  refine fC Tryz.func45 tv42 Tryz.ntmps45 fun w N H hG=>?_;have e0:=Ee_.eq_1 c tag queue;generalize Ee_ c tag queue=z at e0 ⊢;refine gm tv42 14 [0,1] fun B2=>?_;refine cD e0 (fun p5 e6=>?_) (fun p8 e9=>?_)
  · refine gm tv42 9 [] fun _=>?_;subst e6;exact qr2
  refine gx tv42 12 ?_;refine loop (ι:=Nat) [1,2,3,6,15,16] [0,1] (fun k=>[(17, .int .i64 (k:Int))]) (fun k=>[]) (fun k=>k<=c.takers.length/\z=Bt_ c tag queue (c.takers.drop k)) (fun k=>c.takers.length-k) 0 ⟨rfl,trivial⟩ trivial ?_ ?_
  · exact⟨Nat.zero_le _,e9⟩
  rintro k ⟨hp10_1,hp10_2⟩;refine gx tv42 6 ?_;refine cn rfl (fun p12=>?_) fun p24=>?_
  · have e13:=Bz_ (f:=fun zz=>Bt_ c tag queue zz) hp10_2 (Ec_ (by omega)) (Bt_.eq_2 _ _ _ _ _);have hc14:=getG (xs:=c.takers) (k:=k) (by omega);refine gx tv42 6 ?_;refine q1 (qidx tv42 k rfl rfl rfl hc14 rfl rfl rfl rfl) rfl fun w15=>?_;refine gm tv42 13 [2] fun B17=>?_;refine cD e13 (fun p19 e20=>?_) (fun p22 e23=>?_)
    · refine gm tv42 13 [] fun _=>?_;subst e20;exact qr2
    refine gy tv42 7 ?_;refine next (k+1) rfl rfl ⟨rfl,trivial⟩ trivial ?_ ?_
    · (try simp only[]);omega
    exact⟨by (try simp only[]);omega,e23⟩
  have e25:=Bz_ (f:=fun zz=>Bt_ c tag queue zz) hp10_2 (D5_ (by omega)) (Bt_.eq_1 _ _ _);refine gx tv42 14 ?_;refine cD e25 (fun p27 e28=>?_) (fun p30 e31=>?_)
  · refine gm tv42 9 [] fun _=>?_;subst e28;exact qr2
  refine gx tv42 12 ?_;refine ef (app0 2 tv42 c.takers rfl rfl rfl rfl rfl rfl rfl (src_l rfl (fun _=>rfl)) (by first|omega|(simp;omega)) rfl rfl fun u32=>?_);refine gx tv42 9 ?_;refine ef (bsl 3 I_.pc [(⟨tag,queue⟩:I_)] tv42 rfl rfl rfl rfl rfl (fun _=>rfl) rfl (by decide) (by decide) rfl fun u33=>?_);refine ef (app tv42 [(⟨tag,queue⟩:I_)] rfl rfl rfl rfl rfl rfl rfl rfl rfl (src_o rfl rfl) (by first|omega|(simp;omega)) rfl fun u34=>?_);refine gx tv42 1 ?_;refine give 2 rfl ?_;refine ef (sO tv42 ?_);refine gm tv42 10 [] fun _=>?_;subst e31;exact qr2
theorem Li_ (c:ChanR) (tag:Int) (ht:c.takers.length<=1000:=by first|omega|(simp;omega)|decide +kernel):Fn Tryz.prog gb 47 [.agg (ChanR.pc c), .int .u64 tag] (.tup [.agg (ChanR.pc ((Ed_ c tag).1)), .int .i64 ((Ed_ c tag).2)]):=by
  refine fC Tryz.func47 tv42 Tryz.ntmps47 fun w N H hG=>?_;have e0:=Ed_.eq_1 c tag;generalize Ed_ c tag=z at e0 ⊢;refine gm tv42 22 [0,1] fun B2=>?_;refine sw_own (t:=6) (k:=2) (e:=177) 2 I_.pc rfl rfl ?_;refine loop (ι:=Nat×(List I_)×Value) [1,2,4,5,10,11] [0,1] (fun ⟨k,l,u_l⟩=>[(12, .int .i64 (k:Int)),(6, .osl 2)]) (fun ⟨k,l,u_l⟩=>[(2, .arr u_l 2 177 I_.pc l)]) (fun ⟨k,l,u_l⟩=>k<=c.takers.length/\z=A9_ c tag (c.takers.drop k) l/\l.length<=k) (fun ⟨k,l,u_l⟩=>c.takers.length-k) ⟨0,[],(.slice none 0 0)⟩ ⟨rfl,rfl,trivial⟩ ⟨rfl,trivial⟩ ?_ ?_
  · exact⟨Nat.zero_le _,e0,(by first|omega|(simp;done)|(simp;omega))⟩
  rintro⟨k,l,u_l⟩ ⟨hp4_1,hp4_2,hp4_3⟩;refine gx tv42 6 ?_;refine cn rfl (fun p6=>?_) fun p21=>?_
  · have e7:=Bz_ (f:=fun zz=>A9_ c tag zz l) hp4_2 (Ec_ (by omega)) (A9_.eq_2 _ _ _ _ _);have hc8:=getG (xs:=c.takers) (k:=k) (by omega);refine gx tv42 6 ?_;refine q1 (qidx tv42 k rfl rfl rfl hc8 rfl rfl rfl rfl) rfl fun w9=>?_;refine gm tv42 13 [3] fun B11=>?_;refine cN e7 (fun p14 e15=>?_) (fun p19 e20=>?_)
    · refine gx tv42 3 ?_;refine ef (bsl 4 I_.pc [(gt c.takers k)] tv42 rfl rfl rfl rfl rfl (fun _=>rfl) rfl (by decide) (by decide) rfl fun u16=>?_);refine ef (app tv42 [(gt c.takers k)] rfl rfl rfl rfl rfl rfl rfl rfl rfl (src_o rfl rfl) (by first|omega|(simp;omega)) rfl fun u17=>?_);refine gy tv42 8 ?_;refine next ⟨(k+1),(l++[(gt c.takers k)]),(u17)⟩ rfl rfl ⟨rfl,rfl,trivial⟩ ⟨rfl,trivial⟩ ?_ ?_
      · (try simp only[]);omega
      exact⟨by (try simp only[]);omega,e15,(by (try simp only[List.length_append,List.length_cons,List.length_nil,List.flatten_cons,List.flatten_nil,List.append_nil,List.length_take,List.length_drop]);omega)⟩
    refine gy tv42 7 ?_;refine next ⟨(k+1),l,(u_l)⟩ rfl rfl ⟨rfl,rfl,trivial⟩ ⟨rfl,trivial⟩ ?_ ?_
    · (try simp only[]);omega
    exact⟨by (try simp only[]);omega,e20,(by (try simp only[List.length_append,List.length_cons,List.length_nil,List.flatten_cons,List.flatten_nil,List.append_nil,List.length_take,List.length_drop]);omega)⟩
  have e22:=Bz_ (f:=fun zz=>A9_ c tag zz l) hp4_2 (D5_ (by omega)) (A9_.eq_1 _ _ _);refine gx tv42 16 ?_;refine cD e22 (fun p24 e25=>?_) (fun p27 e28=>?_)
  · refine gm tv42 9 [] fun _=>?_;subst e25;exact qr2
  refine gx tv42 6 ?_;refine give 2 rfl ?_;refine ef (sO tv42 ?_);refine gm tv42 10 [] fun _=>?_;subst e28;exact qr2
theorem Nj_ (c:ChanR) (x:LentR) (hn:c.lent.length<=10000000:=by first|omega|(simp;omega)|decide +kernel):Fn Tryz.prog gb 48 [.agg (ChanR.pc c), .agg (LentR.pc x)] (.agg (ChanR.pc (E9_ c x))):=by
  refine fC Tryz.func48 tv42 Tryz.ntmps48 fun w N H hG=>?_;have e0:=E9_.eq_1 c x;refine gm tv42 17 [0,1,2] fun B2=>?_;refine ef (app0 3 tv42 c.lent rfl rfl rfl rfl rfl rfl rfl (src_l rfl (fun _=>rfl)) (by first|omega|(simp;omega)) rfl rfl fun u5=>?_);refine gx tv42 7 ?_;refine ef (bsl 4 LentR.pc [x] tv42 rfl rfl rfl rfl rfl (fun _=>rfl) rfl (by decide) (by decide) rfl fun u6=>?_);refine ef (app tv42 [x] rfl rfl rfl rfl rfl rfl rfl rfl rfl (src_o rfl rfl) (by first|omega|(simp;omega)) rfl fun u7=>?_);refine gx tv42 1 ?_;refine give 3 rfl ?_;refine ef (sO tv42 ?_);refine gm tv42 9 [] fun _=>?_;exact rt1 rfl rfl (Cx_ (fun r:ChanR=> .agg (ChanR.pc r)) e0 (ple rfl))
theorem Nl_ (c:ChanR) (hn:c.lent.length<=10000000:=by first|omega|(simp;omega)|decide +kernel):Fn Tryz.prog gb 138 [.agg (ChanR.pc c)] (.sl LentR.pc (Eg_ c)):=by
  refine fC Tryz.func138 tv42 Tryz.ntmps138 fun w N H hG=>?_;have e0:=Eg_.eq_1 c;refine gm tv42 21 [0] fun B2=>?_;refine sw_own (t:=3) (k:=2) (e:=126) 1 LentR.pc rfl rfl ?_;refine loop (ι:=Nat×(List LentR)×Value) [1,2,7,8] [0] (fun ⟨k,out,u_out⟩=>[(9, .int .i64 (k:Int)),(3, .osl 1)]) (fun ⟨k,out,u_out⟩=>[(1, .arr u_out 2 126 LentR.pc out)]) (fun ⟨k,out,u_out⟩=>k<=c.lent.length/\Eg_ c=Bm_ c (c.lent.drop k) out/\out.length<=k) (fun ⟨k,out,u_out⟩=>c.lent.length-k) ⟨0,[],(.slice none 0 0)⟩ ⟨rfl,rfl,trivial⟩ ⟨rfl,trivial⟩ ?_ ?_
  · exact⟨Nat.zero_le _,e0,(by first|omega|(simp;done)|(simp;omega))⟩
  rintro⟨k,out,u_out⟩ ⟨hp3_1,hp3_2,hp3_3⟩;refine gx tv42 6 ?_;refine cn rfl (fun p5=>?_) fun p19=>?_
  · have e6:=Bz_ (f:=fun zz=>Bm_ c zz out) hp3_2 (Ec_ (by omega)) (Bm_.eq_2 _ _ _ _);have hc7:=getG (xs:=c.lent) (k:=k) (by omega);refine gx tv42 6 ?_;refine q1 (qidx tv42 k rfl rfl rfl hc7 rfl rfl rfl rfl) rfl fun w8=>?_;refine gm tv42 13 [2] fun B10=>?_;refine call (Fk_ _ _ _) rfl rfl fun w11=>?_;refine gx tv42 3 ?_;refine cE e6 (fun h12 e14=>?_) (fun h12 e18=>?_)
    · have h13:=Bd_ h12;refine gx tv42 3 ?_;refine ef (bsl 3 LentR.pc [(gt c.lent k)] tv42 rfl rfl rfl rfl rfl (fun _=>rfl) rfl (by decide) (by decide) rfl fun u15=>?_);refine ef (app tv42 [(gt c.lent k)] rfl rfl rfl rfl rfl rfl rfl rfl rfl (src_o rfl rfl) (by first|omega|(simp;omega)) rfl fun u16=>?_);refine gy tv42 8 ?_;refine next ⟨(k+1),(out++[(gt c.lent k)]),(u16)⟩ rfl rfl ⟨rfl,rfl,trivial⟩ ⟨rfl,trivial⟩ ?_ ?_
      · (try simp only[]);omega
      exact⟨by (try simp only[]);omega,e14,(by (try simp only[List.length_append,List.length_cons,List.length_nil,List.flatten_cons,List.flatten_nil,List.append_nil,List.length_take,List.length_drop]);omega)⟩
    have h17:=Bb_ h12;refine gy tv42 7 ?_;refine next ⟨(k+1),out,(u_out)⟩ rfl rfl ⟨rfl,rfl,trivial⟩ ⟨rfl,trivial⟩ ?_ ?_
    · (try simp only[]);omega
    exact⟨by (try simp only[]);omega,e18,(by (try simp only[List.length_append,List.length_cons,List.length_nil,List.flatten_cons,List.flatten_nil,List.append_nil,List.length_take,List.length_drop]);omega)⟩
  have e20:=Bz_ (f:=fun zz=>Bm_ c zz out) hp3_2 (D5_ (by omega)) (Bm_.eq_1 _ _);refine gx tv42 11 ?_;refine givec 1 rfl ?_;refine gx tv42 1 ?_;exact rt1 rfl rfl (Cx_ (fun r:(List LentR)=> .sl LentR.pc r) e20 (ple rfl))
abbrev R2_:(Ai_×Int)->PV:=fun r=> .tup [.agg (Ai_.pc r.1), .int .i64 r.2]
abbrev R3_:(List LentR)->PV:=fun r=> .sl LentR.pc r
abbrev R4_:((List DeedR)×Int)->PV:=fun r=> .tup [.sl DeedR.pc r.1, .int .i64 r.2]
def tbv43:Tb:=[(4,ty4),(5,ty5),(9,ty9),(27,ty27),(30,ty30),(32,ty32),(53,ty53),(56,ty56),(57,ty57),(59,ty59),(126,ty126),(184,Rh_)]
theorem tv43:tbB Tryz.prog tbv43=true:=by kernel_rfl
theorem Ds_ (c:ChanR) (l:List DeedR) (hx:c.held.l.length<=1000:=by first|omega|(simp;omega)|decide +kernel):Fn Tryz.prog gb 56 [.agg (ChanR.pc c), .sl DeedR.pc l] (.tup [.agg (ChanR.pc ((L_ c l).1)), .int .i64 ((L_ c l).2)]):=by
  refine fC Tryz.func56 tv43 Tryz.ntmps56 fun w N H hG=>?_;have e0:=L_.eq_1 c l;generalize L_ c l=z at e0 ⊢;refine gm tv43 15 [0,1] fun B2=>?_;refine cE e0 (fun h4 e6=>?_) (fun h4 e9=>?_)
  · have h5:=Bd_ h4;refine gm tv43 9 [] fun _=>?_;subst e6;exact qr2
  have h8:=Bb_ h4;refine gx tv43 7 ?_;refine cV e9 R2_ (F0_ _ _) rfl fun r hr10 e12 w11=>?_;have hA12:=Rb_ c.held l
  (try rw[<- hr10] at hA12)
  (try have hA12b:=hA12 (by first|assumption|omega|exact Gl_|(simp;done)))
  (try have hA12c:=hA12b)
  (try obtain⟨hA12d0,hA12d1,hA12d2⟩:=hA12c)
  refine gm tv43 24 [2] fun B15=>?_;subst e12;exact qr2
theorem Iy_ (c:ChanR) (id:Int) (how:Int) (upto:Bool) (hn:c.lent.length<=10000000:=by first|omega|(simp;omega)|decide +kernel):Fn Tryz.prog gb 97 [.agg (ChanR.pc c), .int .u64 id, .int .u64 how, .bool upto] (.tup [.sl DeedR.pc ((Bs_ c id how upto).1), .int .i64 ((Bs_ c id how upto).2)]):=by
  refine fC Tryz.func97 tv43 Tryz.ntmps97 fun w N H hG=>?_;have e0:=Bs_.eq_1 c id how upto;generalize Bs_ c id how upto=z at e0 ⊢;refine gm tv43 14 [0] fun B2=>?_;refine cD e0 (fun p4 e5=>?_) (fun p6 e7=>?_)
  · refine gx tv43 8 ?_;subst e5;exact rt2 rfl rfl (Il_ (Ac_ Cy_ (Ac_ (ple rfl) C5_)))
  refine gx tv43 11 ?_;refine cV e7 R3_ (Nl_ _) rfl fun r hr8 e10 w9=>?_;have hA10:=Ny_ c
  (try rw[<- hr8] at hA10)
  refine gx tv43 5 ?_;refine sw_own (t:=10) (k:=29) (e:=184) 1 DeedR.pc rfl rfl ?_;refine loop (ι:=Nat×(List DeedR)×Value) [1,2,3,17,18] [0] (fun ⟨k,out,u_out⟩=>[(19, .int .i64 (k:Int)),(10, .osl 1)]) (fun ⟨k,out,u_out⟩=>[(1, .arr u_out 29 184 DeedR.pc out)]) (fun ⟨k,out,u_out⟩=>k<=r.length/\z=An_ id how upto (r.drop k) out/\out.length<=k) (fun ⟨k,out,u_out⟩=>r.length-k) ⟨0,[],(.slice none 0 0)⟩ ⟨rfl,rfl,trivial⟩ ⟨rfl,trivial⟩ ?_ ?_
  · exact⟨Nat.zero_le _,e10,(by first|omega|(simp;done)|(simp;omega))⟩
  rintro⟨k,out,u_out⟩ ⟨hp12_1,hp12_2,hp12_3⟩;refine gx tv43 6 ?_;refine cn rfl (fun p14=>?_) fun p33=>?_
  · have e15:=Bz_ (f:=fun zz=>An_ id how upto zz out) hp12_2 (Ec_ (by omega)) (An_.eq_2 _ _ _ _ _ _);have hc16:=getG (xs:=r) (k:=k) (by omega);refine gx tv43 6 ?_;refine q1 (qidx tv43 k rfl rfl rfl hc16 rfl rfl rfl rfl) rfl fun w17=>?_;refine gm tv43 27 [2,3] fun B19=>?_;refine cD e15 (fun p22 e23=>?_) (fun p26 e27=>?_)
    · refine gx tv43 4 ?_;refine ef (bsl 4 DeedR.pc [(⟨8,0,(⟨[],0,[]⟩:ShopR),(⟨[],0,0,[]⟩:QueueR),(⟨[],[],false,[],[],false⟩:BindR),(gt r k).queue,(gt r k).id,(IntKind.wrap .u8 how),0,0,0,(⟨0,[],[],[],[],0,0⟩:Mail),[]⟩:DeedR)] tv43 rfl rfl rfl rfl rfl (fun _=>rfl) rfl (by decide) (by decide) rfl fun u24=>?_);refine ef (app tv43 [(⟨8,0,(⟨[],0,[]⟩:ShopR),(⟨[],0,0,[]⟩:QueueR),(⟨[],[],false,[],[],false⟩:BindR),(gt r k).queue,(gt r k).id,(IntKind.wrap .u8 how),0,0,0,(⟨0,[],[],[],[],0,0⟩:Mail),[]⟩:DeedR)] rfl rfl rfl rfl rfl rfl rfl rfl rfl (src_o rfl rfl) (by first|omega|(simp;omega)) rfl fun u25=>?_);refine gx tv43 4 ?_;refine givec 1 rfl ?_;refine gx tv43 7 ?_;subst e23;exact qr2
    refine gx tv43 7 ?_;refine cE e27 (fun h28 e29=>?_) (fun h28 e32=>?_)
    · refine gx tv43 3 ?_;refine ef (bsl 4 DeedR.pc [(⟨8,0,(⟨[],0,[]⟩:ShopR),(⟨[],0,0,[]⟩:QueueR),(⟨[],[],false,[],[],false⟩:BindR),(gt r k).queue,(gt r k).id,(IntKind.wrap .u8 how),0,0,0,(⟨0,[],[],[],[],0,0⟩:Mail),[]⟩:DeedR)] tv43 rfl rfl rfl rfl rfl (fun _=>rfl) rfl (by decide) (by decide) rfl fun u30=>?_);refine ef (app tv43 [(⟨8,0,(⟨[],0,[]⟩:ShopR),(⟨[],0,0,[]⟩:QueueR),(⟨[],[],false,[],[],false⟩:BindR),(gt r k).queue,(gt r k).id,(IntKind.wrap .u8 how),0,0,0,(⟨0,[],[],[],[],0,0⟩:Mail),[]⟩:DeedR)] rfl rfl rfl rfl rfl rfl rfl rfl rfl (src_o rfl rfl) (by first|omega|(simp;omega)) rfl fun u31=>?_);refine gy tv43 8 ?_;refine next ⟨(k+1),(out++[(⟨8,0,(⟨[],0,[]⟩:ShopR),(⟨[],0,0,[]⟩:QueueR),(⟨[],[],false,[],[],false⟩:BindR),(gt r k).queue,(gt r k).id,(IntKind.wrap .u8 how),0,0,0,(⟨0,[],[],[],[],0,0⟩:Mail),[]⟩:DeedR)]),(u31)⟩ rfl rfl ⟨rfl,rfl,trivial⟩ ⟨rfl,trivial⟩ ?_ ?_
      · (try simp only[]);omega
      exact⟨by (try simp only[]);omega,e29,(by (try simp only[List.length_append,List.length_cons,List.length_nil,List.flatten_cons,List.flatten_nil,List.append_nil,List.length_take,List.length_drop]);omega)⟩
    refine gy tv43 7 ?_;refine next ⟨(k+1),out,(u_out)⟩ rfl rfl ⟨rfl,rfl,trivial⟩ ⟨rfl,trivial⟩ ?_ ?_
    · (try simp only[]);omega
    exact⟨by (try simp only[]);omega,e32,(by (try simp only[List.length_append,List.length_cons,List.length_nil,List.flatten_cons,List.flatten_nil,List.append_nil,List.length_take,List.length_drop]);omega)⟩
  have e34:=Bz_ (f:=fun zz=>An_ id how upto zz out) hp12_2 (D5_ (by omega)) (An_.eq_1 _ _ _ _);refine gx tv43 12 ?_;subst e34;exact rt2 rfl rfl (Il_ (Ac_ Cy_ (Ac_ (ple rfl) C5_)))
theorem Mu_ (c:ChanR) (l:List DeedR) (hn:c.lent.length<=10000000:=by first|omega|(simp;omega)|decide +kernel):Fn Tryz.prog gb 98 [.agg (ChanR.pc c), .sl DeedR.pc l] (.agg (ChanR.pc (E7_ c l))):=by
  refine fC Tryz.func98 tv43 Tryz.ntmps98 fun w N H hG=>?_;have c_takers_l:c.takers.length<=140737488355328:=w.1.2.1.1;have c_lent_l:c.lent.length<=140737488355328:=w.1.2.2.1.1;have c_held_l_l:c.held.l.length<=140737488355328:=w.1.2.2.2.2.2.2.1.1;have l_l:l.length<=140737488355328:=w.2.1.1;have e0:=E7_.eq_1 c l;refine gm tv43 15 [0,1] fun B2=>?_;refine loop (ι:=Nat×ChanR) [2,4,11,12] [1] (fun ⟨k,x⟩=>[(13, .int .i64 (k:Int))]) (fun ⟨k,x⟩=>[(0, .box (B2 0) 59 (ChanR.pc x))]) (fun ⟨k,x⟩=>k<=l.length/\E7_ c l=B0_ (l.drop k) x/\x.lent.length<=10000000) (fun ⟨k,x⟩=>l.length-k) ⟨0,c⟩ ⟨rfl,trivial⟩ ⟨rfl,trivial⟩ ?_ ?_
  · exact⟨Nat.zero_le _,e0,(by first|omega|(simp;done)|(simp;omega))⟩
  rintro⟨k,x⟩ ⟨hp4_1,hp4_2,hp4_3⟩;refine gx tv43 6 ?_;refine cn rfl (fun p6=>?_) fun p43=>?_
  · have e7:=Bz_ (f:=fun zz=>B0_ zz x) hp4_2 (Ec_ (by omega)) (B0_.eq_2 _ _ _);refine gx tv43 3 ?_;obtain⟨o,e_o,q_o⟩:=Hv_ e7;refine Pe_ (ι:=ChanR) [2,4,11,12,13] [1] (fun x1=>[]) (fun x1=>[(0, .box (B2 0) 59 (ChanR.pc x1))]) (fun x1=>o=x1/\x1.lent.length<=10000000) ?_ ?_
    · have hc8:=getG (xs:=l) (k:=k) (by omega);refine gx tv43 3 ?_;refine q1 (qidx tv43 k rfl rfl rfl hc8 rfl rfl rfl rfl) rfl fun w9=>?_;refine gm tv43 13 [2] fun B11=>?_;refine cN e_o (fun p14 e15=>?_) (fun p17 e18=>?_)
      · refine gx tv43 3 ?_;refine nX x ?_ trivial ⟨rfl,trivial⟩;exact⟨e15,(by (try simp only[List.length_append,List.length_cons,List.length_nil,List.flatten_cons,List.flatten_nil,List.append_nil,List.length_take,List.length_drop]);omega)⟩
      refine gx tv43 22 ?_;refine sw_own (t:=7) (k:=2) (e:=126) 3 LentR.pc rfl rfl ?_;refine loop (ι:=Nat×(List LentR)×Bool×Value) [2,4,6,11,12,13,21,22] [0,1,2] (fun ⟨k1,left,done,u_left⟩=>[(23, .int .i64 (k1:Int)),(7, .osl 3),(8, .bool done)]) (fun ⟨k1,left,done,u_left⟩=>[(3, .arr u_left 2 126 LentR.pc left)]) (fun ⟨k1,left,done,u_left⟩=>k1<=x.lent.length/\o=Av_ x (gt l k) (x.lent.drop k1) left done /\ left.length<=k1) (fun ⟨k1,left,done,u_left⟩=>x.lent.length-k1) ⟨0,[],false,(.slice none 0 0)⟩ ⟨rfl,rfl,rfl,trivial⟩ ⟨rfl,trivial⟩ ?_ ?_
      · exact⟨Nat.zero_le _,e18,(by first|omega|(simp;done)|(simp;omega))⟩
      rintro⟨k1,left,done,u_left⟩ ⟨hp19_1,hp19_2,hp19_3⟩;refine gx tv43 6 ?_;refine cn rfl (fun p21=>?_) fun p39=>?_
      · have e22:=Bz_ (f:=fun zz=>Av_ x (gt l k) zz left done) hp19_2 (Ec_ (by omega)) (Av_.eq_2 _ _ _ _ _ _);have hc23:=getG (xs:=x.lent) (k:=k1) (by omega);refine gx tv43 6 ?_;refine q1 (qidx tv43 k1 rfl rfl rfl hc23 rfl rfl rfl rfl) rfl fun w24=>?_;refine gmy tv43 25 [4] fun B26=>?_;refine cE e22 (fun h27 e35=>?_) (fun h27 e36=>?_)
        · have h28:=bl h27;have h29:=bl h28;have h30:=Bd_ h29;have h31:=br h28;have p32:=dt h31;have h33:=br h27;have p34:=dt h33;refine gy tv43 9 ?_;refine next ⟨(k1+1),left,true,(u_left)⟩ rfl rfl ⟨rfl,rfl,rfl,trivial⟩ ⟨rfl,trivial⟩ ?_ ?_
          · (try simp only[]);omega
          exact⟨by (try simp only[]);omega,e35,(by (try simp only[List.length_append,List.length_cons,List.length_nil,List.flatten_cons,List.flatten_nil,List.append_nil,List.length_take,List.length_drop]);omega)⟩
        refine gx tv43 3 ?_;refine ef (bsl 5 LentR.pc [(gt x.lent k1)] tv43 rfl rfl rfl rfl rfl (fun _=>rfl) rfl (by decide) (by decide) rfl fun u37=>?_);refine ef (app tv43 [(gt x.lent k1)] rfl rfl rfl rfl rfl rfl rfl rfl rfl (src_o rfl rfl) (by first|omega|(simp;omega)) rfl fun u38=>?_);refine gy tv43 8 ?_;refine next ⟨(k1+1),(left ++ [(gt x.lent k1)]),done,(u38)⟩ rfl rfl ⟨rfl,rfl,rfl,trivial⟩ ⟨rfl,trivial⟩ ?_ ?_
        · (try simp only[]);omega
        exact⟨by (try simp only[]);omega,e36,(by (try simp only[List.length_append,List.length_cons,List.length_nil,List.flatten_cons,List.flatten_nil,List.append_nil,List.length_take,List.length_drop]);omega)⟩
      have e40:=Bz_ (f:=fun zz=>Av_ x (gt l k) zz left done) hp19_2 (D5_ (by omega)) (Av_.eq_1 _ _ _ _);refine gx tv43 8 ?_;refine give 3 rfl ?_;refine ef (sO tv43 ?_);refine gx tv43 2 ?_;refine nX (⟨x.credit,x.takers,left,x.sure,x.drafts,x.puts,x.held⟩:ChanR) ?_ trivial ⟨rfl,trivial⟩;exact⟨e40,(by (try simp only[List.length_append,List.length_cons,List.length_nil,List.flatten_cons,List.flatten_nil,List.append_nil,List.length_take,List.length_drop]);omega)⟩
    rintro x1 ⟨hp41,hp41_3⟩;have e42:=Mn_ q_o hp41;refine gy tv43 5 ?_;refine next ⟨(k+1),x1⟩ rfl rfl ⟨rfl,trivial⟩ ⟨rfl,trivial⟩ ?_ ?_
    · (try simp only[]);omega
    exact⟨by (try simp only[]);omega,e42,(by (try simp only[List.length_append,List.length_cons,List.length_nil,List.flatten_cons,List.flatten_nil,List.append_nil,List.length_take,List.length_drop]);omega)⟩
  have e44:=Bz_ (f:=fun zz=>B0_ zz x) hp4_2 (D5_ (by omega)) (B0_.eq_1 _);refine gm tv43 12 [] fun _=>?_;exact rt1 rfl rfl (Cx_ (fun r:ChanR=> .agg (ChanR.pc r)) e44 (ple rfl))
theorem Hx_ (c:ChanR) (l:List DeedR) (hx:c.held.l.length<=1000:=by first|omega|(simp;omega)|decide +kernel):Fn Tryz.prog gb 57 [.agg (ChanR.pc c), .sl DeedR.pc l] (.tup [.agg (ChanR.pc ((C4_ c l).1)), .int .i64 ((C4_ c l).2)]):=by
  refine fC Tryz.func57 tv43 Tryz.ntmps57 fun w N H hG=>?_;have e0:=C4_.eq_1 c l;generalize C4_ c l=z at e0 ⊢;refine gm tv43 15 [0,1] fun B2=>?_;refine cE e0 (fun h4 e6=>?_) (fun h4 e9=>?_)
  · have h5:=Bd_ h4;refine gm tv43 9 [] fun _=>?_;subst e6;exact qr2
  have h8:=Bb_ h4;refine gx tv43 7 ?_;refine cV e9 R4_ (O7_ _ _) rfl fun r hr10 e12 w11=>?_;have hA12:=U1_ c.held.l l
  (try rw[<- hr10] at hA12)
  (try have hA12b:=hA12 (by first|assumption|omega|exact Gl_|(simp;done)))
  refine gm tv43 23 [] fun _=>?_;subst e12;exact qr2
def tbv47:Tb:=[(9,ty9),(32,ty32),(39,ty39),(44,ty44),(49,ty49),(53,ty53),(200,Mz_),(342,U4_)]
theorem tv47:tbB Tryz.prog tbv47=true:=by kernel_rfl
theorem Su_:Fn Tryz.prog gb 241 [] (.bool true):=by
  refine fC Tryz.func241 tv47 Tryz.ntmps241 fun w N H hG=>?_;refine gx tv47 9 ?_;refine call (Gh_ (⟨[],[]⟩:BookR) (⟨[97],1,[]⟩:ShopR)) rfl rfl fun w1=>?_;refine gm tv47 12 [0] fun B3=>?_;refine call (Dv_ _ (⟨[97],[113],false,[],[],false⟩:BindR)) rfl rfl fun w4=>?_;refine gm tv47 10 [] fun _=>?_;refine call (Dv_ _ (⟨[97],[113],false,[120],[],false⟩:BindR)) rfl rfl fun w6=>?_;refine gm tv47 10 [] fun _=>?_;refine call (Fn.le (Ft_ _ _ _ []) (Ac_ (ple rfl) (Ac_ (ple rfl) (Ac_ (ple rfl) (Ac_ Cy_ C5_)))) (ple rfl) rfl) rfl rfl fun w8=>?_;refine gx tv47 11 ?_;refine call H8_ rfl rfl fun w9=>?_;refine gx tv47 1 ?_;refine ungd rfl rfl ?_;refine call Rt_ rfl rfl fun w10=>?_;refine gx tv47 2 ?_;refine ungd rfl rfl ?_;refine gx tv47 1 ?_;refine ungd rfl rfl ?_;refine gx tv47 1 ?_;refine so_rt (t:=37) (p':= .bool true) (ple (congrArg PV.bool (show decide (((Ad_ ((Ad_ ((Ba_ (⟨[],[]⟩:BookR) (⟨[97],1,[]⟩:ShopR)).1) (⟨[97],[113],false,[],[],false⟩:BindR)).1) (⟨[97],[113],false,[120],[],false⟩:BindR)).2)=0)=true by decide +kernel))) rfl ?_;refine gx tv47 2 ?_;refine ungd rfl rfl ?_;refine gx tv47 1 ?_;refine ungd rfl rfl ?_;refine gx tv47 1 ?_;refine so_rt (t:=41) (p':= .bool true) (ple (congrArg PV.bool (show decide (((A1_ ((Ad_ ((Ad_ ((Ba_ (⟨[],[]⟩:BookR) (⟨[97],1,[]⟩:ShopR)).1) (⟨[97],[113],false,[],[],false⟩:BindR)).1) (⟨[97],[113],false,[120],[],false⟩:BindR)).1) [97] [] []).2.2)=0)=true by decide +kernel))) rfl ?_;refine gx tv47 2 ?_;refine ungd rfl rfl ?_;refine gx tv47 1 ?_;refine ungd rfl rfl ?_;refine ef (bsl 1 strc [[113]] tv47 rfl rfl rfl rfl rfl (fun _=>rfl) rfl (by decide) (by decide) rfl fun u11=>?_);refine ungd rfl rfl ?_;refine ef (calll 1 rfl (eq_Str _ _) rfl rfl rfl fun w12=>?_);refine so_rt (t:=46) (p':= .bool true) (ple (congrArg PV.bool (show decide (((A1_ ((Ad_ ((Ad_ ((Ba_ (⟨[],[]⟩:BookR) (⟨[97],1,[]⟩:ShopR)).1) (⟨[97],[113],false,[],[],false⟩:BindR)).1) (⟨[97],[113],false,[120],[],false⟩:BindR)).1) [97] [] []).1)=[[113]])=true by decide +kernel))) rfl ?_;refine gx tv47 2 ?_;refine ungd rfl rfl ?_;refine gx tv47 1 ?_;refine ungd rfl rfl ?_;refine gx tv47 1 ?_;refine ungd rfl rfl ?_;refine gx tv47 1 ?_;refine so_rt (t:=51) (p':= .bool true) (ple (congrArg PV.bool (show decide ((((A1_ ((Ad_ ((Ad_ ((Ba_ (⟨[],[]⟩:BookR) (⟨[97],1,[]⟩:ShopR)).1) (⟨[97],[113],false,[],[],false⟩:BindR)).1) (⟨[97],[113],false,[120],[],false⟩:BindR)).1) [97] [] []).2.1).length:Int)=0)=true by decide +kernel))) rfl ?_;refine gx tv47 5 ?_;refine rt1 rfl rfl (ple ?_);exact congrArg PV.bool (by first|rfl|decide +kernel)
theorem P3_:Fn Tryz.prog gb 214 [] (.bool true):=by
  refine fC Tryz.func214 tv47 Tryz.ntmps214 fun w N H hG=>?_;refine gx tv47 7 ?_;refine call Su_ rfl rfl fun w1=>?_;refine gx tv47 4 ?_;refine rt1 rfl rfl (ple ?_)
  rfl
theorem Qf_:Fn Tryz.prog gb 174 [] (.bool true):=by
  refine fC Tryz.func174 tv47 Tryz.ntmps174 fun w N H hG=>?_;refine gx tv47 8 ?_;refine call (Pf_ (⟨11,1,(⟨[],0,[]⟩:ShopR),(⟨[],0,0,[]⟩:QueueR),(⟨[],[],false,[],[],false⟩:BindR),[],0,0,0,0,0,(⟨0,[],[],[],[],0,0⟩:Mail),[]⟩:DeedR)) rfl rfl fun w1=>?_;have :=Ka_ (d:=(⟨11,1,(⟨[],0,[]⟩:ShopR),(⟨[],0,0,[]⟩:QueueR),(⟨[],[],false,[],[],false⟩:BindR),[],0,0,0,0,0,(⟨0,[],[],[],[],0,0⟩:Mail),[]⟩:DeedR)) (by first|omega|decide);have :=J1_ (⟨11,1,(⟨[],0,[]⟩:ShopR),(⟨[],0,0,[]⟩:QueueR),(⟨[],[],false,[],[],false⟩:BindR),[],0,0,0,0,0,(⟨0,[],[],[],[],0,0⟩:Mail),[]⟩:DeedR);refine gx tv47 9 ?_;refine call Q3_ rfl rfl fun w2=>?_;refine gx tv47 1 ?_;refine ungd rfl rfl ?_;refine call P3_ rfl rfl fun w3=>?_;refine gx tv47 2 ?_;refine ungd rfl rfl ?_;refine gx tv47 1 ?_;refine ungd rfl rfl ?_;refine gx tv47 1 ?_;refine so_rt (t:=14) (p':= .bool true) (ple (congrArg PV.bool (show decide ((Ae_ (⟨11,1,(⟨[],0,[]⟩:ShopR),(⟨[],0,0,[]⟩:QueueR),(⟨[],[],false,[],[],false⟩:BindR),[],0,0,0,0,0,(⟨0,[],[],[],[],0,0⟩:Mail),[]⟩:DeedR))=0)=true by decide +kernel))) rfl ?_;refine gx tv47 2 ?_;refine ungd rfl rfl ?_;refine gx tv47 1 ?_;refine ungd rfl rfl ?_;refine gx tv47 1 ?_;refine ungd rfl rfl ?_;refine gx tv47 1 ?_;refine so_rt (t:=19) (p':= .bool true) (ple (congrArg PV.bool (show decide (((J_ (⟨11,1,(⟨[],0,[]⟩:ShopR),(⟨[],0,0,[]⟩:QueueR),(⟨[],[],false,[],[],false⟩:BindR),[],0,0,0,0,0,(⟨0,[],[],[],[],0,0⟩:Mail),[]⟩:DeedR)).length:Int)=9)=true by decide +kernel))) rfl ?_;refine gx tv47 5 ?_;refine rt1 rfl rfl (ple ?_);exact congrArg PV.bool (by first|rfl|decide +kernel)
theorem Sm_:Fn Tryz.prog gb 133 [] (.bool true):=by
  refine fC Tryz.func133 tv47 Tryz.ntmps133 fun w N H hG=>?_;refine gx tv47 7 ?_;refine call Qf_ rfl rfl fun w1=>?_;refine gx tv47 4 ?_;refine rt1 rfl rfl (ple ?_)
  rfl
theorem Tb_:Fn Tryz.prog gb 91 [] (.bool true):=by
  refine fC Tryz.func91 tv47 Tryz.ntmps91 fun w N H hG=>?_;refine gx tv47 7 ?_;refine call Sm_ rfl rfl fun w1=>?_;refine gx tv47 1 ?_;refine ungd rfl rfl ?_;refine call (Gv_ _ _) rfl rfl fun w2=>?_;refine ungd rfl rfl ?_;refine gx tv47 1 ?_;refine so_rt (t:=4) (p':= .bool true) (ple (congrArg PV.bool (show decide ((Fi_ 3 4)=7)=true by decide +kernel))) rfl ?_;refine gx tv47 2 ?_;refine ungd rfl rfl ?_;refine call (Gv_ _ _) rfl rfl fun w3=>?_;refine ungd rfl rfl ?_;refine gx tv47 1 ?_;refine so_rt (t:=8) (p':= .bool true) (ple (congrArg PV.bool (show decide ((Fi_ 18446744073709551615 1)=0)=true by decide +kernel))) rfl ?_;refine gx tv47 5 ?_;refine rt1 rfl rfl (ple ?_);exact congrArg PV.bool (by first|rfl|decide +kernel)
theorem Tm_:Fn Tryz.prog gb 37 [] (.bool true):=by
  refine fC Tryz.func37 tv47 Tryz.ntmps37 fun w N H hG=>?_;refine gx tv47 7 ?_;refine call Tb_ rfl rfl fun w1=>?_;refine gx tv47 4 ?_;refine rt1 rfl rfl (ple ?_)
  rfl
theorem Qc_:Fn Tryz.prog gb 7 [] (.bool true):=by
  refine fC Tryz.func7 tv47 Tryz.ntmps7 fun w N H hG=>?_;refine gx tv47 7 ?_;refine call Hd_ rfl rfl fun w1=>?_;refine call (Dd_ _ _) rfl rfl fun w2=>?_;refine gm tv47 10 [0] fun B4=>?_;refine call Tm_ rfl rfl fun w5=>?_;refine gx tv47 1 ?_;refine ungd rfl rfl ?_;refine gx tv47 1 ?_;refine ungd rfl rfl ?_;refine gx tv47 1 ?_;refine so_rt (t:=11) (p':= .bool true) (ple (congrArg PV.bool (show decide (((H_ (Bn_) 1).2)=0)=true by decide +kernel))) rfl ?_;refine gx tv47 2 ?_;refine ungd rfl rfl ?_;refine gx tv47 1 ?_;refine ungd rfl rfl ?_;refine call (Dw_ _) rfl rfl fun w6=>?_;refine ungd rfl rfl ?_;refine gx tv47 1 ?_;refine so_rt (t:=16) (p':= .bool true) (ple (congrArg PV.bool (show decide ((Co_ ((H_ (Bn_) 1).1))=1)=true by decide +kernel))) rfl ?_;refine gx tv47 2 ?_;refine ungd rfl rfl ?_;refine gx tv47 1 ?_;refine ungd rfl rfl ?_;refine gx tv47 1 ?_;refine ungd rfl rfl ?_;refine call (Cr_ _ (⟨1,[113]⟩:LentR)) rfl rfl fun w7=>?_;refine ungd rfl rfl ?_;refine call (Dw_ _) rfl rfl fun w8=>?_;refine ungd rfl rfl ?_;refine gx tv47 1 ?_;refine so_rt (t:=23) (p':= .bool true) (ple (congrArg PV.bool (show decide ((Co_ (Z_ ((H_ (Bn_) 1).1) (⟨1,[113]⟩:LentR)))=0)=true by decide +kernel))) rfl ?_;refine gx tv47 5 ?_;refine rt1 rfl rfl (ple ?_);exact congrArg PV.bool (by first|rfl|decide +kernel)
end Go.SW.V
