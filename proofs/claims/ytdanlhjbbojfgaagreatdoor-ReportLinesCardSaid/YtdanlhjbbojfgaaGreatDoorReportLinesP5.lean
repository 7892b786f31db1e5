/-
  A part of the proof of ReportLines: The walks of this seat, printed by program: deed.Deed.Bytes.
-/
import Derived.Test.YtdanlhjbbojfgaaGreatDoorProg
import Derived.Test.YtdanlhjbbojfgaaGreatDoorReportLinesP2
import Derived.KernelRfl
import Derived.Test.YtdanlhjbbojfgaaGreatDoorReportLinesP4
import Derived.Test.YtdanlhjbbojfgaaGreatDoorReportLinesP3
import Derived.Test.YtdanlhjbbojfgaaGreatDoorReportLinesP1
set_option linter.unusedVariables false
set_option linter.unusedSimpArgs false
set_option maxRecDepth 100000
set_option maxHeartbeats 4000000
namespace Go.SW.V
open Go.SW Go.Proofs
def tbv16:Tb:=[(4,ty4),(5,ty5),(9,ty9),(22,ty22),(64,ty64),(66,ty66),(67,ty67),(69,ty69),(71,ty71),(73,ty73),(169,ty169)]
theorem tv16:tbB Tryz.prog tbv16=true:=by kernel_rfl
theorem deed_Bytes (d:DeedR):Fn Tryz.prog gb 284 [.agg (DeedR.pc d)] (.tup [.str (A4_ d), .int .i64 (Ga_ d)]):=by
  refine fC Tryz.func284 tv16 Tryz.ntmps284 fun w N H hG=>?_;have d_w:=DeedR.pwf w.1;have d_w':=d_w
  simp only[DeedR.wf,ShopR.wf,QueueR.wf,BindR.wf,Mail.wf] at d_w'
  have d_bind_want_k:=DeedR.kd13 w.1;have d_bind_want_k2:d.bind.want.length<=140737488355328:=w.1.2.2.2.2.2.2.2.2.2.2.2.2.2.1.1;have d_mail_head_k:=DeedR.kd24 w.1;have d_mail_head_k2:d.mail.head.length<=140737488355328:=w.1.2.2.2.2.2.2.2.2.2.2.2.2.2.2.2.2.2.2.2.2.2.2.2.2.1.1;refine gm tv16 11 [0] fun B2=>?_;refine call (T6_ _) rfl rfl fun w3=>?_;have :=Za_ d;refine gx tv16 9 ?_;refine cnd rfl (fun h4=>?_) (fun h4=>?_)
  · have h5:=Ds_ h4;have p6:=df h5;refine gx tv16 9 ?_;refine rt2 rfl rfl ?_;refine ple ?_;have e:A4_ d=[]:=by
      unfold A4_
      first
        |(rw[if_neg (by assumption)];done)
        |(rw[if_pos (by assumption)];unfold Hn_;(repeat (first|rw[if_pos (by omega)]|rw[if_neg (by omega)]|rw[if_pos (by assumption)]|rw[if_neg (by assumption)]|rw[if_neg (not_not_intro (by assumption))]));first|done|rfl)
    rw[e]
    try (rw[show Ga_ d=0 by assumption])
  have h7:=D2_ h4;have p8:=dt h7;have hdk:=U7_ (d:=d) (by omega) p8;obtain⟨dk1,dk2,dk3,dk4,dk5,dk6,dk7,dk8,dk9,dk10,dk11,dk12,dk13,dk14,dk15,dk16,dk17,dk18,dk19⟩:=hdk;refine gx tv16 3 ?_;refine aN [1,2,3,4,5,6] 10 mixd ?_;refine gX tv16 [0,1,2,3] 6 ?_;refine vC 4 rfl (out_Num (⟨[],0⟩:Out) _ _ (by ((try have :=hrl (by assumption));first|omega|(simp[C_,Cm_,Q_,numK]<;>omega)))) rfl fun w9=>?_;have nl0:(⟨[],0⟩:Out).s.length=0:=rfl;have :=Ai_ (⟨[],0⟩:Out) d.kind 1;refine gX tv16 [5,6] 3 ?_;refine vC 7 rfl (out_Num _ _ _ (by ((try have :=hrl (by assumption));first|omega|(simp[C_,Cm_,Q_,numK]<;>omega)))) rfl fun w10=>?_;have :=Ai_ (C_ (⟨[],0⟩:Out) d.kind 1) d.tick 8;refine vE 8 rfl (aL tv16 1 fun b11=>?_);refine vT 9 rfl (sA tv16 ?_);refine vD ?_;refine gx tv16 5 ?_;refine call (P6_ _) rfl rfl fun w12=>?_;have :=Hf_ d.mail;refine gx tv16 21 ?_;refine cn rfl (fun p14=>?_) fun p19=>?_
  · refine aN [2,3,4,5,6,7] 15 mixd ?_;refine gX tv16 [0,1,2,3] 11 ?_;refine vC 4 rfl (D9_ _ _) rfl fun w15=>?_;have :=Ar_ (C_ (C_ (⟨[],0⟩:Out) d.kind 1) d.tick 8) d.shop.name;refine gX tv16 [5,6,7,8] 6 ?_;refine vC 9 rfl (out_Num _ _ _ (by ((try have :=hrl (by assumption));first|omega|(simp[C_,Cm_,Q_,numK]<;>omega)))) rfl fun w16=>?_;have :=Ai_ (F_ (C_ (C_ (⟨[],0⟩:Out) d.kind 1) d.tick 8) d.shop.name) d.shop.sort 1;refine gX tv16 [10,11,12] 2 ?_;refine vC 13 rfl (D9_ _ _) rfl fun w17=>?_;have :=Ar_ (C_ (F_ (C_ (C_ (⟨[],0⟩:Out) d.kind 1) d.tick 8) d.shop.name) d.shop.sort 1) d.shop.to';refine vT 14 rfl (sA tv16 ?_);refine vD ?_;refine gx tv16 5 ?_;refine call (Dp_ _) rfl rfl fun w18=>?_;refine gx tv16 5 ?_;refine rt2 rfl rfl ?_;refine ple ?_;have e:A4_ d=(F_ (C_ (F_ (C_ (C_ (⟨[],0⟩:Out) d.kind 1) d.tick 8) d.shop.name) d.shop.sort 1) d.shop.to').s:=by
      unfold A4_
      first
        |(rw[if_neg (by assumption)];done)
        |(rw[if_pos (by assumption)];unfold Hn_;(repeat (first|rw[if_pos (by omega)]|rw[if_neg (by omega)]|rw[if_pos (by assumption)]|rw[if_neg (by assumption)]|rw[if_neg (not_not_intro (by assumption))]));first|done|rfl)
    rw[e]
    try (rw[show Ga_ d=0 by assumption])
  refine gx tv16 6 ?_;refine cn rfl (fun p21=>?_) fun p27=>?_
  · refine aN [2,3,4,5,6,7] 18 mixd ?_;refine gX tv16 [0,1,2,3] 14 ?_;refine vC 4 rfl (D9_ _ _) rfl fun w22=>?_;have :=Ar_ (C_ (C_ (⟨[],0⟩:Out) d.kind 1) d.tick 8) d.queue.name;refine gX tv16 [5,6,7] 10 ?_;refine vC 8 rfl (out_Num _ _ _ (by ((try have :=hrl (by assumption));first|omega|(simp[C_,Cm_,Q_,numK]<;>omega)))) rfl fun w23=>?_;have :=Ai_ (F_ (C_ (C_ (⟨[],0⟩:Out) d.kind 1) d.tick 8) d.queue.name) d.queue.most 8;refine gX tv16 [9,10,11] 6 ?_;refine vC 12 rfl (out_Num _ _ _ (by ((try have :=hrl (by assumption));first|omega|(simp[C_,Cm_,Q_,numK]<;>omega)))) rfl fun w24=>?_;have :=Ai_ (C_ (F_ (C_ (C_ (⟨[],0⟩:Out) d.kind 1) d.tick 8) d.queue.name) d.queue.most 8) d.queue.life 8;refine gX tv16 [13,14,15] 2 ?_;refine vC 16 rfl (D9_ _ _) rfl fun w25=>?_;have :=Ar_ (C_ (C_ (F_ (C_ (C_ (⟨[],0⟩:Out) d.kind 1) d.tick 8) d.queue.name) d.queue.most 8) d.queue.life 8) d.queue.dead;refine vT 17 rfl (sA tv16 ?_);refine vD ?_;refine gx tv16 5 ?_;refine call (Dp_ _) rfl rfl fun w26=>?_;refine gx tv16 5 ?_;refine rt2 rfl rfl ?_;refine ple ?_;have e:A4_ d=(F_ (C_ (C_ (F_ (C_ (C_ (⟨[],0⟩:Out) d.kind 1) d.tick 8) d.queue.name) d.queue.most 8) d.queue.life 8) d.queue.dead).s:=by
      unfold A4_
      first
        |(rw[if_neg (by assumption)];done)
        |(rw[if_pos (by assumption)];unfold Hn_;(repeat (first|rw[if_pos (by omega)]|rw[if_neg (by omega)]|rw[if_pos (by assumption)]|rw[if_neg (by assumption)]|rw[if_neg (not_not_intro (by assumption))]));first|done|rfl)
    rw[e]
    try (rw[show Ga_ d=0 by assumption])
  refine gx tv16 7 ?_;refine cnd rfl (fun h28=>?_) (fun h28=>?_)
  · have p29:=dt h28;refine gx tv16 2 ?_;refine cndT rfl h28 ?_;refine gm tv16 12 [2] fun B31=>?_;refine call (Nc_ _) rfl rfl fun w32=>?_;have :=Gb_ d.bind.want;refine gx tv16 7 ?_;refine aN [3,4,5,6,7,8] 21 mixd ?_;refine gX tv16 [0,1,2] 18 ?_;refine vC 3 rfl (D9_ _ _) rfl fun w33=>?_;have :=Ar_ (C_ (C_ (⟨[],0⟩:Out) d.kind 1) d.tick 8) d.bind.shop;refine gX tv16 [4,5] 15 ?_;refine vC 6 rfl (D9_ _ _) rfl fun w34=>?_;have :=Ar_ (F_ (C_ (C_ (⟨[],0⟩:Out) d.kind 1) d.tick 8) d.bind.shop) d.bind.to';refine gX tv16 [7,8] 12 ?_;refine vC 9 rfl (Q4_ _) rfl fun w35=>?_;refine vC 10 rfl (out_Num _ _ _ (by ((try have :=hrl (by assumption));first|omega|(simp[C_,Cm_,Q_,numK]<;>omega)))) rfl fun w36=>?_;have :=Ai_ (F_ (F_ (C_ (C_ (⟨[],0⟩:Out) d.kind 1) d.tick 8) d.bind.shop) d.bind.to') (bitN d.bind.up) 1;refine gX tv16 [11,12] 8 ?_;refine vC 13 rfl (D9_ _ _) rfl fun w37=>?_;have :=Ar_ (C_ (F_ (F_ (C_ (C_ (⟨[],0⟩:Out) d.kind 1) d.tick 8) d.bind.shop) d.bind.to') (bitN d.bind.up) 1) d.bind.key;refine gX tv16 [14] 6 ?_;refine vC 15 rfl (Qa_ _ _) rfl fun w38=>?_;have :=Ia_ (F_ (C_ (F_ (F_ (C_ (C_ (⟨[],0⟩:Out) d.kind 1) d.tick 8) d.bind.shop) d.bind.to') (bitN d.bind.up) 1) d.bind.key) (B8_ d.bind.want);refine gX tv16 [16,17] 3 ?_;refine vC 18 rfl (Q4_ _) rfl fun w39=>?_;refine vC 19 rfl (out_Num _ _ _ (by ((try have :=hrl (by assumption));first|omega|(simp[C_,Cm_,Q_,numK]<;>omega)))) rfl fun w40=>?_;have :=Ai_ (Cm_ (F_ (C_ (F_ (F_ (C_ (C_ (⟨[],0⟩:Out) d.kind 1) d.tick 8) d.bind.shop) d.bind.to') (bitN d.bind.up) 1) d.bind.key) (B8_ d.bind.want)) (bitN d.bind.all) 1;refine vT 20 rfl (sA tv16 ?_);refine vD ?_;refine gx tv16 5 ?_;refine call (Dp_ _) rfl rfl fun w41=>?_;refine gx tv16 5 ?_;refine rt2 rfl rfl ?_;refine ple ?_;have e:A4_ d=(C_ (Cm_ (F_ (C_ (F_ (F_ (C_ (C_ (⟨[],0⟩:Out) d.kind 1) d.tick 8) d.bind.shop) d.bind.to') (bitN d.bind.up) 1) d.bind.key) (B8_ d.bind.want)) (bitN d.bind.all) 1).s:=by
      unfold A4_
      first
        |(rw[if_neg (by assumption)];done)
        |(rw[if_pos (by assumption)];unfold Hn_;(repeat (first|rw[if_pos (by omega)]|rw[if_neg (by omega)]|rw[if_pos (by assumption)]|rw[if_neg (by assumption)]|rw[if_neg (not_not_intro (by assumption))]));first|done|rfl)
    rw[e]
    try (rw[show Ga_ d=0 by assumption])
  have p42:=df h28;refine gx tv16 5 ?_;refine cn rfl (fun p44=>?_) fun p57=>?_
  · refine gm tv16 12 [2] fun B46=>?_;refine call (Nc_ _) rfl rfl fun w47=>?_;have :=Gb_ d.bind.want;refine gx tv16 7 ?_;refine aN [3,4,5,6,7,8] 21 mixd ?_;refine gX tv16 [0,1,2] 18 ?_;refine vC 3 rfl (D9_ _ _) rfl fun w48=>?_;have :=Ar_ (C_ (C_ (⟨[],0⟩:Out) d.kind 1) d.tick 8) d.bind.shop;refine gX tv16 [4,5] 15 ?_;refine vC 6 rfl (D9_ _ _) rfl fun w49=>?_;have :=Ar_ (F_ (C_ (C_ (⟨[],0⟩:Out) d.kind 1) d.tick 8) d.bind.shop) d.bind.to';refine gX tv16 [7,8] 12 ?_;refine vC 9 rfl (Q4_ _) rfl fun w50=>?_;refine vC 10 rfl (out_Num _ _ _ (by ((try have :=hrl (by assumption));first|omega|(simp[C_,Cm_,Q_,numK]<;>omega)))) rfl fun w51=>?_;have :=Ai_ (F_ (F_ (C_ (C_ (⟨[],0⟩:Out) d.kind 1) d.tick 8) d.bind.shop) d.bind.to') (bitN d.bind.up) 1;refine gX tv16 [11,12] 8 ?_;refine vC 13 rfl (D9_ _ _) rfl fun w52=>?_;have :=Ar_ (C_ (F_ (F_ (C_ (C_ (⟨[],0⟩:Out) d.kind 1) d.tick 8) d.bind.shop) d.bind.to') (bitN d.bind.up) 1) d.bind.key;refine gX tv16 [14] 6 ?_;refine vC 15 rfl (Qa_ _ _) rfl fun w53=>?_;have :=Ia_ (F_ (C_ (F_ (F_ (C_ (C_ (⟨[],0⟩:Out) d.kind 1) d.tick 8) d.bind.shop) d.bind.to') (bitN d.bind.up) 1) d.bind.key) (B8_ d.bind.want);refine gX tv16 [16,17] 3 ?_;refine vC 18 rfl (Q4_ _) rfl fun w54=>?_;refine vC 19 rfl (out_Num _ _ _ (by ((try have :=hrl (by assumption));first|omega|(simp[C_,Cm_,Q_,numK]<;>omega)))) rfl fun w55=>?_;have :=Ai_ (Cm_ (F_ (C_ (F_ (F_ (C_ (C_ (⟨[],0⟩:Out) d.kind 1) d.tick 8) d.bind.shop) d.bind.to') (bitN d.bind.up) 1) d.bind.key) (B8_ d.bind.want)) (bitN d.bind.all) 1;refine vT 20 rfl (sA tv16 ?_);refine vD ?_;refine gx tv16 5 ?_;refine call (Dp_ _) rfl rfl fun w56=>?_;refine gx tv16 5 ?_;refine rt2 rfl rfl ?_;refine ple ?_;have e:A4_ d=(C_ (Cm_ (F_ (C_ (F_ (F_ (C_ (C_ (⟨[],0⟩:Out) d.kind 1) d.tick 8) d.bind.shop) d.bind.to') (bitN d.bind.up) 1) d.bind.key) (B8_ d.bind.want)) (bitN d.bind.all) 1).s:=by
      unfold A4_
      first
        |(rw[if_neg (by assumption)];done)
        |(rw[if_pos (by assumption)];unfold Hn_;(repeat (first|rw[if_pos (by omega)]|rw[if_neg (by omega)]|rw[if_pos (by assumption)]|rw[if_neg (by assumption)]|rw[if_neg (not_not_intro (by assumption))]));first|done|rfl)
    rw[e]
    try (rw[show Ga_ d=0 by assumption])
  refine gx tv16 6 ?_;refine cn rfl (fun p59=>?_) fun p63=>?_
  · refine gx tv16 3 ?_;refine call (Qa_ _ _) rfl rfl fun w60=>?_;have :=Ia_ (C_ (C_ (⟨[],0⟩:Out) d.kind 1) d.tick 8) (Dy_ d.mail);refine gm tv16 7 [] fun _=>?_;refine call (Dp_ _) rfl rfl fun w62=>?_;refine gx tv16 5 ?_;refine rt2 rfl rfl ?_;refine ple ?_;have e:A4_ d=(Cm_ (C_ (C_ (⟨[],0⟩:Out) d.kind 1) d.tick 8) (Dy_ d.mail)).s:=by
      unfold A4_
      first
        |(rw[if_neg (by assumption)];done)
        |(rw[if_pos (by assumption)];unfold Hn_;(repeat (first|rw[if_pos (by omega)]|rw[if_neg (by omega)]|rw[if_pos (by assumption)]|rw[if_neg (by assumption)]|rw[if_neg (not_not_intro (by assumption))]));first|done|rfl)
    rw[e]
    try (rw[show Ga_ d=0 by assumption])
  refine gx tv16 7 ?_;refine cnd rfl (fun h64=>?_) (fun h64=>?_)
  · have p65:=dt h64;refine gx tv16 2 ?_;refine cndT rfl h64 ?_;refine gx tv16 4 ?_;refine call (D9_ _ _) rfl rfl fun w66=>?_;have :=Ar_ (C_ (C_ (⟨[],0⟩:Out) d.kind 1) d.tick 8) d.name;refine gm tv16 7 [] fun _=>?_;refine call (Dp_ _) rfl rfl fun w68=>?_;refine gx tv16 5 ?_;refine rt2 rfl rfl ?_;refine ple ?_;have e:A4_ d=(F_ (C_ (C_ (⟨[],0⟩:Out) d.kind 1) d.tick 8) d.name).s:=by
      unfold A4_
      first
        |(rw[if_neg (by assumption)];done)
        |(rw[if_pos (by assumption)];unfold Hn_;(repeat (first|rw[if_pos (by omega)]|rw[if_neg (by omega)]|rw[if_pos (by assumption)]|rw[if_neg (by assumption)]|rw[if_neg (not_not_intro (by assumption))]));first|done|rfl)
    rw[e]
    try (rw[show Ga_ d=0 by assumption])
  have p69:=df h64;refine gx tv16 6 ?_;refine cnd rfl (fun h70=>?_) (fun h70=>?_)
  · have p71:=dt h70;refine gx tv16 2 ?_;refine cndT rfl h70 ?_;refine gx tv16 4 ?_;refine call (D9_ _ _) rfl rfl fun w72=>?_;have :=Ar_ (C_ (C_ (⟨[],0⟩:Out) d.kind 1) d.tick 8) d.name;refine gm tv16 7 [] fun _=>?_;refine call (Dp_ _) rfl rfl fun w74=>?_;refine gx tv16 5 ?_;refine rt2 rfl rfl ?_;refine ple ?_;have e:A4_ d=(F_ (C_ (C_ (⟨[],0⟩:Out) d.kind 1) d.tick 8) d.name).s:=by
      unfold A4_
      first
        |(rw[if_neg (by assumption)];done)
        |(rw[if_pos (by assumption)];unfold Hn_;(repeat (first|rw[if_pos (by omega)]|rw[if_neg (by omega)]|rw[if_pos (by assumption)]|rw[if_neg (by assumption)]|rw[if_neg (not_not_intro (by assumption))]));first|done|rfl)
    rw[e]
    try (rw[show Ga_ d=0 by assumption])
  have p75:=df h70;refine gx tv16 5 ?_;refine cn rfl (fun p77=>?_) fun p81=>?_
  · refine gx tv16 4 ?_;refine call (D9_ _ _) rfl rfl fun w78=>?_;have :=Ar_ (C_ (C_ (⟨[],0⟩:Out) d.kind 1) d.tick 8) d.name;refine gm tv16 7 [] fun _=>?_;refine call (Dp_ _) rfl rfl fun w80=>?_;refine gx tv16 5 ?_;refine rt2 rfl rfl ?_;refine ple ?_;have e:A4_ d=(F_ (C_ (C_ (⟨[],0⟩:Out) d.kind 1) d.tick 8) d.name).s:=by
      unfold A4_
      first
        |(rw[if_neg (by assumption)];done)
        |(rw[if_pos (by assumption)];unfold Hn_;(repeat (first|rw[if_pos (by omega)]|rw[if_neg (by omega)]|rw[if_pos (by assumption)]|rw[if_neg (by assumption)]|rw[if_neg (not_not_intro (by assumption))]));first|done|rfl)
    rw[e]
    try (rw[show Ga_ d=0 by assumption])
  refine gx tv16 6 ?_;refine cn rfl (fun p83=>?_) fun p88=>?_
  · refine aN [2,3,4,5,6,7] 12 mixd ?_;refine gX tv16 [0,1,2] 9 ?_;refine vC 3 rfl (D9_ _ _) rfl fun w84=>?_;have :=Ar_ (C_ (C_ (⟨[],0⟩:Out) d.kind 1) d.tick 8) d.name;refine gX tv16 [4,5] 6 ?_;refine vC 6 rfl (out_Num _ _ _ (by ((try have :=hrl (by assumption));first|omega|(simp[C_,Cm_,Q_,numK]<;>omega)))) rfl fun w85=>?_;have :=Ai_ (F_ (C_ (C_ (⟨[],0⟩:Out) d.kind 1) d.tick 8) d.name) d.id 8;refine gX tv16 [7,8,9] 2 ?_;refine vC 10 rfl (out_Num _ _ _ (by ((try have :=hrl (by assumption));first|omega|(simp[C_,Cm_,Q_,numK]<;>omega)))) rfl fun w86=>?_;have :=Ai_ (C_ (F_ (C_ (C_ (⟨[],0⟩:Out) d.kind 1) d.tick 8) d.name) d.id 8) d.how 1;refine vT 11 rfl (sA tv16 ?_);refine vD ?_;refine gx tv16 5 ?_;refine call (Dp_ _) rfl rfl fun w87=>?_;refine gx tv16 5 ?_;refine rt2 rfl rfl ?_;refine ple ?_;have e:A4_ d=(C_ (C_ (F_ (C_ (C_ (⟨[],0⟩:Out) d.kind 1) d.tick 8) d.name) d.id 8) d.how 1).s:=by
      unfold A4_
      first
        |(rw[if_neg (by assumption)];done)
        |(rw[if_pos (by assumption)];unfold Hn_;(repeat (first|rw[if_pos (by omega)]|rw[if_neg (by omega)]|rw[if_pos (by assumption)]|rw[if_neg (by assumption)]|rw[if_neg (not_not_intro (by assumption))]));first|done|rfl)
    rw[e]
    try (rw[show Ga_ d=0 by assumption])
  refine gx tv16 6 ?_;refine cn rfl (fun p90=>?_) fun p95=>?_
  · refine aN [2,3,4,5,6,7] 11 mixd ?_;refine gX tv16 [0,1,2,3] 7 ?_;refine vC 4 rfl (out_Num _ _ _ (by ((try have :=hrl (by assumption));first|omega|(simp[C_,Cm_,Q_,numK]<;>omega)))) rfl fun w91=>?_;have :=Ai_ (C_ (C_ (⟨[],0⟩:Out) d.kind 1) d.tick 8) d.frm 1;refine gX tv16 [5,6] 4 ?_;refine vC 7 rfl (out_Num _ _ _ (by ((try have :=hrl (by assumption));first|omega|(simp[C_,Cm_,Q_,numK]<;>omega)))) rfl fun w92=>?_;have :=Ai_ (C_ (C_ (C_ (⟨[],0⟩:Out) d.kind 1) d.tick 8) d.frm 1) d.number 8;refine gX tv16 [8] 2 ?_;refine vC 9 rfl (Qa_ _ _) rfl fun w93=>?_;have :=Ia_ (C_ (C_ (C_ (C_ (⟨[],0⟩:Out) d.kind 1) d.tick 8) d.frm 1) d.number 8) (Dy_ d.mail);refine vT 10 rfl (sA tv16 ?_);refine vD ?_;refine gx tv16 5 ?_;refine call (Dp_ _) rfl rfl fun w94=>?_;refine gx tv16 5 ?_;refine rt2 rfl rfl ?_;refine ple ?_;have e:A4_ d=(Cm_ (C_ (C_ (C_ (C_ (⟨[],0⟩:Out) d.kind 1) d.tick 8) d.frm 1) d.number 8) (Dy_ d.mail)).s:=by
      unfold A4_
      first
        |(rw[if_neg (by assumption)];done)
        |(rw[if_pos (by assumption)];unfold Hn_;(repeat (first|rw[if_pos (by omega)]|rw[if_neg (by omega)]|rw[if_pos (by assumption)]|rw[if_neg (by assumption)]|rw[if_neg (not_not_intro (by assumption))]));first|done|rfl)
    rw[e]
    try (rw[show Ga_ d=0 by assumption])
  refine gx tv16 6 ?_;refine cn rfl (fun p97=>?_) fun p101=>?_
  · refine aN [2,3,4,5,6,7] 9 mixd ?_;refine gX tv16 [0,1,2,3] 5 ?_;refine vC 4 rfl (out_Num _ _ _ (by ((try have :=hrl (by assumption));first|omega|(simp[C_,Cm_,Q_,numK]<;>omega)))) rfl fun w98=>?_;have :=Ai_ (C_ (C_ (⟨[],0⟩:Out) d.kind 1) d.tick 8) d.code 1;refine gX tv16 [5,6] 2 ?_;refine vC 7 rfl (D9_ _ _) rfl fun w99=>?_;have :=Ar_ (C_ (C_ (C_ (⟨[],0⟩:Out) d.kind 1) d.tick 8) d.code 1) d.text;refine vT 8 rfl (sA tv16 ?_);refine vD ?_;refine gx tv16 5 ?_;refine call (Dp_ _) rfl rfl fun w100=>?_;refine gx tv16 5 ?_;refine rt2 rfl rfl ?_;refine ple ?_;have e:A4_ d=(F_ (C_ (C_ (C_ (⟨[],0⟩:Out) d.kind 1) d.tick 8) d.code 1) d.text).s:=by
      unfold A4_
      first
        |(rw[if_neg (by assumption)];done)
        |(rw[if_pos (by assumption)];unfold Hn_;(repeat (first|rw[if_pos (by omega)]|rw[if_neg (by omega)]|rw[if_pos (by assumption)]|rw[if_neg (by assumption)]|rw[if_neg (not_not_intro (by assumption))]));first|done|rfl)
    rw[e]
    try (rw[show Ga_ d=0 by assumption])
  refine gx tv16 6 ?_;refine call (Dp_ _) rfl rfl fun w102=>?_;refine gx tv16 5 ?_;refine rt2 rfl rfl ?_;refine ple ?_;have e:A4_ d=(C_ (C_ (⟨[],0⟩:Out) d.kind 1) d.tick 8).s:=by
    unfold A4_
    first
      |(rw[if_neg (by assumption)];done)
      |(rw[if_pos (by assumption)];unfold Hn_;(repeat (first|rw[if_pos (by omega)]|rw[if_neg (by omega)]|rw[if_pos (by assumption)]|rw[if_neg (by assumption)]|rw[if_neg (not_not_intro (by assumption))]));first|done|rfl)
  rw[e]
  try (rw[show Ga_ d=0 by assumption])
def tbv18:Tb:=[(9,ty9),(106,Ns_)]
theorem tv18:tbB Tryz.prog tbv18=true:=by kernel_rfl
theorem Z6_ (s:Bs):Fn Tryz.prog gb 99 [.str s] (.int .i64 (Ee_ s)):=by
  refine fC Tryz.func99 tv18 Tryz.ntmps99 fun w N H hG=>?_;refine gx tv18 13 ?_;refine cn rfl (fun p2=>?_) fun p3=>?_
  · refine gx tv18 7 ?_;refine rt1 rfl rfl (ple ?_);have :s=[]:=List.eq_nil_of_length_eq_zero (by omega);subst this
    rfl
  refine gx tv18 10 ?_;refine cn rfl (fun p5=>?_) fun p6=>?_
  · refine gx tv18 7 ?_;refine rt1 rfl rfl (ple ?_);have hne:¬s=[]:=fun q=>by subst q;simp at *
    unfold Ee_
    rw[if_neg hne,if_pos (by omega)]
  refine gx tv18 9 ?_;refine loop (ι:=Nat) [0,4,5,6,7,8,9] [] (fun k=>[(3, .int .i64 (k:Int))]) (fun k=>[]) (fun k=>k<=s.length/\(s.drop k).all (fun c=>letter c.toNat)=plain s) (fun k=>s.length-k) 0 ⟨rfl,trivial⟩ trivial ?_ ?_
  · exact⟨by omega,rfl⟩
  rintro k hp7;obtain⟨hk1,hk2⟩:=hp7;refine gx tv18 9 ?_;refine cn rfl (fun p9=>?_) fun p15=>?_
  · have :=u8r (s.getD k 0);refine gx tv18 8 ?_;refine q1 (sidx tv18 k rfl rfl rfl rfl rfl (by omega)) rfl fun w10=>?_;refine call (Yo_ _) rfl rfl fun w11=>?_;refine gx tv18 3 ?_;refine cnd rfl (fun h12=>?_) (fun h12=>?_)
    · have h13:=Ds_ h12;refine gx tv18 11 ?_;refine rt1 rfl rfl (ple ?_);have hne:¬s=[]:=fun q=>by subst q;simp at *
      unfold Ee_
      rw[if_neg hne,if_neg (by omega),<- hk2,Px_ (k:=k) (by omega)]
      simp only[*,Bool.false_and,Bool.false_eq_true,if_false]
    have h14:=D2_ h12;refine gy tv18 8 ?_;refine next (k+1) rfl rfl ⟨rfl,trivial⟩ trivial ?_ ?_
    · omega
    refine⟨by omega,?_⟩
    rw[<- hk2,Px_ (k:=k) (by omega)]
    simp only[*,Bool.true_and]
  refine gx tv18 11 ?_;refine rt1 rfl rfl (ple ?_);have hne:¬s=[]:=fun q=>by subst q;simp at *
  unfold Ee_
  rw[if_neg hne,if_neg (by omega),<- hk2,List.drop_of_length_le (by omega)]
  rfl
theorem r4_Split (s:Bs) (hs:s.length<=1000000:=by first|omega|(simp;done)|decide):Fn Tryz.prog gb 324 [.str s] (.sl strc (Bj_ s)):=by
  refine fC Tryz.func324 tv18 Tryz.ntmps324 fun w N H hG=>?_;refine gx tv18 13 ?_;refine cn rfl (fun p2=>?_) fun p3=>?_
  · refine gx tv18 7 ?_;refine rt1 rfl rfl ?_;refine K3_ ?_
    unfold Bj_;rw[if_pos (List.eq_nil_of_length_eq_zero (by omega))]
  refine gx tv18 19 ?_;refine sw_own (t:=3) (k:=1) (e:=9) 0 strc rfl rfl ?_;refine loop (ι:=Nat×Nat×(List Bs)×Value) [0,2,6,7,8] [] (fun ⟨f,k,out,u_out⟩=>[(3, .osl 0),(4, .int .i64 (f:Int)),(5, .int .i64 (k:Int))]) (fun ⟨f,k,out,u_out⟩=>[(0, .arr u_out 1 9 strc out)]) (fun ⟨f,k,out,u_out⟩=>f<=k/\k<=s.length/\dots s=out++dots (s.drop f)/\Zu_ s f k/\out.length<=k) (fun ⟨f,k,out,u_out⟩=>s.length-k) ⟨0,0,[],(.slice none 0 0)⟩ ⟨rfl,rfl,rfl,trivial⟩ ⟨rfl,trivial⟩ ?_ ?_
  · exact⟨Nat.le_refl _,Nat.zero_le _,rfl,Ya_,Nat.zero_le _⟩
  rintro⟨f,k,out,u_out⟩ hp4;obtain⟨hk1,hk2,hk3,hk4,hk5⟩:=hp4;refine gx tv18 9 ?_;refine cn rfl (fun p6=>?_) fun p14=>?_
  · have :=u8r (s.getD k 0);refine gx tv18 8 ?_;refine q1 (sidx tv18 k rfl rfl rfl rfl rfl (by omega)) rfl fun w7=>?_;refine gx tv18 3 ?_;refine cn rfl (fun p9=>?_) fun p13=>?_
    · refine gx tv18 6 ?_;refine q1 (ssl tv18 f k rfl rfl rfl rfl rfl rfl rfl (by omega) (by omega)) rfl fun w10=>?_;refine ef (bsl 1 strc [((s.drop f).take (k-f))] tv18 rfl rfl rfl rfl rfl (fun _=>rfl) rfl (by decide) (by decide) rfl fun u11=>?_);refine ef (app tv18 [((s.drop f).take (k-f))] rfl rfl rfl rfl rfl rfl rfl rfl rfl (src_o rfl rfl) (by first|omega|(simp;omega)) rfl fun u12=>?_);refine gy tv18 15 ?_;refine next ⟨(k+1),(k+1),(out++[((s.drop f).take (k-f))]),(u12)⟩ rfl rfl ⟨rfl,rfl,rfl,trivial⟩ ⟨rfl,trivial⟩ ?_ ?_
      · (try simp only[]);omega
      (try simp only[])
      refine⟨by omega,by omega,split_hit hk3 hk4 (by omega) (by omega) (byteEq (n:=46) (by omega) (by omega)),Ya_,by simp;omega⟩
    refine gy tv18 8 ?_;refine next ⟨f,(k+1),out,(u_out)⟩ rfl rfl ⟨rfl,rfl,rfl,trivial⟩ ⟨rfl,trivial⟩ ?_ ?_
    · (try simp only[]);omega
    exact⟨by omega,by omega,hk3,noDot_step hk4 (byteNe (n:=46) (by omega) (by omega)),by omega⟩
  refine gx tv18 10 ?_;refine q1 (sslo tv18 f rfl rfl rfl rfl rfl (by omega)) rfl fun w15=>?_;refine ef (bsl 1 strc [(s.drop f)] tv18 rfl rfl rfl rfl rfl (fun _=>rfl) rfl (by decide) (by decide) rfl fun u16=>?_);refine ef (app tv18 [(s.drop f)] rfl rfl rfl rfl rfl rfl rfl rfl rfl (src_o rfl rfl) (by first|omega|(simp;omega)) rfl fun u17=>?_);refine gx tv18 3 ?_;refine givec 0 rfl ?_;refine gx tv18 1 ?_;refine rt1 rfl rfl (ple ?_);have hne:¬s=[]:=fun q=>by subst q;simp at *
  have e:Bj_ s=(out++[(s.drop f)]):=by unfold Bj_;rw[if_neg hne];exact split_end hk3 hk4 (by omega)
  first|(rw[e];done)|(rw[e];rfl)
theorem r4_Key (s:Bs) (pattern:Bool):Fn Tryz.prog gb 304 [.str s, .bool pattern] (.int .i64 (keyE (Dj_ pattern) s)):=by
  refine fC Tryz.func304 tv18 Tryz.ntmps304 fun w N H hG=>?_;refine gx tv18 13 ?_;refine cnd rfl (fun h1=>?_) (fun h1=>?_)
  · have p2:=dt h1;refine gx tv18 7 ?_;refine rt1 rfl rfl (ple ?_)
    unfold keyE
    rw[if_pos (by omega)]
  have p3:=df h1;refine gx tv18 6 ?_;refine call (r4_Split _) rfl rfl fun w4=>?_;refine gx tv18 5 ?_;refine loop (ι:=Nat) [0,1,9,10,11,12,13,14] [] (fun k=>[(15, .int .i64 (k:Int))]) (fun k=>[]) (fun k=>k<=(Bj_ s).length/\(Bj_ s).any (Nz_ (Dj_ pattern))=((Bj_ s).drop k).any (Nz_ (Dj_ pattern))) (fun k=>(Bj_ s).length-k) 0 ⟨rfl,trivial⟩ trivial ?_ ?_
  · exact⟨Nat.zero_le _,by simp⟩
  rintro k hp5;obtain⟨hk1,hk2⟩:=hp5;have hwl:=Rh_ s;refine gx tv18 6 ?_;refine cnd rfl (fun h6=>?_) (fun h6=>?_)
  · have p7:=dt h6;obtain⟨c8,hc9⟩:=getE (xs:=Bj_ s) (m:=k) (by omega);have c8_l:c8.length<=9223372036854775807:=(w4.2 c8 (List.mem_of_getElem? hc9)).1;refine gx tv18 6 ?_;refine q1 (qidx tv18 k rfl rfl rfl hc9 rfl rfl rfl rfl) rfl fun w10=>?_;refine gx tv18 19 ?_;refine loop (ι:=Nat×Bool) [0,1,6,9,10,11,12,13,14,15,16,17,18,19,20,21] [] (fun ⟨j,b⟩=>[(7, .bool b),(8, .int .i64 (j:Int))]) (fun ⟨j,b⟩=>[]) (fun ⟨j,b⟩=>j<=c8.length/\(decide ((c8.length:Int)=0)||!plain c8)=(b||!((c8.drop j).all (fun c=>letter c.toNat)))) (fun ⟨j,b⟩=>c8.length-j) ⟨0,(decide ((c8.length:Int)=0))⟩ ⟨rfl,rfl,trivial⟩ trivial ?_ ?_
    · exact⟨Nat.zero_le _,rfl⟩
    rintro⟨j,b⟩ hp11;obtain⟨hj1,hj2⟩:=hp11;refine gx tv18 9 ?_;refine cnd rfl (fun h12=>?_) (fun h12=>?_)
    · have p13:=dt h12;have :=u8r (c8.getD j 0);refine gx tv18 9 ?_;refine q1g [30,31] rfl (fun hc=>sidx tv18 j rfl rfl rfl rfl rfl (by first|omega|(simp only[gOf,bl2] at *;omega))) ⟨(fun hc=>hc),(fun hc=>hc),trivial⟩ rfl rfl rfl fun _=>?_;refine callg rfl (fun hc=>(Yo_ _)) rfl ⟨(fun hc=>hc),trivial⟩ rfl rfl fun _=>?_;refine gy tv18 11 ?_;refine next ⟨(j+1),(b||(!(letter ((c8.getD j 0).toNat:Int))))⟩ rfl rfl ⟨rfl,rfl,trivial⟩ trivial ?_ ?_
      · (try simp only[]);omega
      refine⟨by omega,?_⟩
      rw[hj2,Px_ (k:=j) (by omega)]
      simp only[*,Bool.true_or,Bool.false_or,Bool.not_and,Bool.not_true,Bool.not_false,Bool.false_and,Bool.true_and,Bool.or_assoc]
    have p14:=df h12;refine gy tv18 22 ?_;refine cnd rfl (fun h15=>?_) (fun h15=>?_)
    · have h16:=bl h15;have h17:=br h15;have h18:=Ds_ h17;refine gx tv18 11 ?_;refine rt1 rfl rfl (ple ?_)
      rw[List.drop_of_length_le (by omega)] at hj2
      have hX:=hj2
      simp only[List.all_nil,Bool.not_true,Bool.or_false] at hX
      have hb:Nz_ (Dj_ pattern) c8=true:=by rw[W6_ hX];first|(simp[*];done)|(simp_all;done)|(cases pattern<;>simp_all;done)|grind
      unfold keyE
      rw[if_neg (by omega),hk2,C4_ hc9,List.any_cons,hb]
      rfl
    refine gy tv18 7 ?_;refine next (k+1) rfl rfl ⟨rfl,trivial⟩ trivial ?_ ?_
    · omega
    refine⟨by omega,?_⟩
    rw[List.drop_of_length_le (by omega)] at hj2
    have hX:=hj2
    simp only[List.all_nil,Bool.not_true,Bool.or_false] at hX
    have hb:Nz_ (Dj_ pattern) c8=false:=by rw[W6_ hX];first|(simp[*];done)|(simp_all;done)|(cases pattern<;>simp_all;done)|grind
    rw[hk2,C4_ hc9,List.any_cons,hb]
    simp
  have p19:=df h6;refine gx tv18 11 ?_;refine rt1 rfl rfl (ple ?_)
  unfold keyE
  rw[if_neg (by omega),hk2,List.drop_of_length_le (by omega)]
  rfl
def tbv19:Tb:=[(2,ty2),(5,ty5),(9,ty9),(67,ty67),(268,ty268)]
theorem tv19:tbB Tryz.prog tbv19=true:=by kernel_rfl
theorem r9_Pair (p:Pair) (ahead:List Pair):Fn Tryz.prog gb 325 [.agg (Pair.pc p), .sl Pair.pc ahead] (.int .i64 (E9_ p ahead)):=by
  refine fC Tryz.func325 tv19 Tryz.ntmps325 fun w N H hG=>?_;have ahead_l:ahead.length<=140737488355328:=w.2.1.1;refine gm tv19 10 [0] fun B2=>?_;refine call (Z6_ _) rfl rfl fun w3=>?_;refine gx tv19 10 ?_;refine cnd rfl (fun h4=>?_) (fun h4=>?_)
  · have h5:=Ds_ h4;have p6:=df h5;refine gx tv19 8 ?_;refine rt1 rfl rfl (ple ?_);refine congrArg (PV.int .i64) ?_
    rw[H5_]
    simp only[bl1] at *
    first|(simp[*];done)|(simp[*];omega)|((repeat' split)<;>first|rfl|omega|(exfalso;simp_all;done)|(exfalso;simp_all;omega)|grind)
  have h7:=D2_ h4;have p8:=dt h7;refine gx tv19 10 ?_;refine cnd rfl (fun h9=>?_) (fun h9=>?_)
  · have p10:=dt h9;refine gx tv19 7 ?_;refine rt1 rfl rfl (ple ?_);refine congrArg (PV.int .i64) ?_
    rw[H5_]
    simp only[bl1] at *
    first|(simp[*];done)|(simp[*];omega)|((repeat' split)<;>first|rfl|omega|(exfalso;simp_all;done)|(exfalso;simp_all;omega)|grind)
  have p11:=df h9;refine gy tv19 16 ?_;refine cnd rfl (fun h12=>?_) (fun h12=>?_)
  · have h13:=bl h12;have p14:=dt h13;have h15:=br h12;have p16:=dt h15;refine gx tv19 7 ?_;refine rt1 rfl rfl (ple ?_);refine congrArg (PV.int .i64) ?_
    rw[H5_]
    simp only[bl1] at *
    first|(simp[*];done)|(simp[*];omega)|((repeat' split)<;>first|rfl|omega|(exfalso;simp_all;done)|(exfalso;simp_all;omega)|grind)
  refine gy tv19 20 ?_;refine cnd rfl (fun h17=>?_) (fun h17=>?_)
  · have h18:=bl h17;have p19:=dt h18;have h20:=br h17;refine gx tv19 7 ?_;refine rt1 rfl rfl (ple ?_);refine congrArg (PV.int .i64) ?_
    rw[H5_]
    simp only[bl1] at *
    first|(simp[*];done)|(simp[*];omega)|((repeat' split)<;>first|rfl|omega|(exfalso;simp_all;done)|(exfalso;simp_all;omega)|grind)
  refine gy tv19 25 ?_;refine cnd rfl (fun h21=>?_) (fun h21=>?_)
  · refine gx tv19 7 ?_;refine rt1 rfl rfl (ple ?_);refine congrArg (PV.int .i64) ?_
    rw[H5_]
    simp only[bl1] at *
    first|(simp[*];done)|(simp[*];omega)|((repeat' split)<;>first|rfl|omega|(exfalso;simp_all;done)|(exfalso;simp_all;omega)|grind)
  have h22:=orl h21;have h23:=orr h21;refine gx tv19 11 ?_;refine loop (ι:=Nat) [0,1,2,5,8,9,10,11,12,14,15,16,17,18,19,20,21,22,23,24,25,26,27,28,29,30,31,32,33,34,35,36,37,38,39,40,41,42,43,44,45,46,47,48,49,50,51,52,53,54,55,56,57,58] [0] (fun k=>[(59, .int .i64 (k:Int))]) (fun k=>[]) (fun k=>k<=ahead.length/\J9_ ahead p.key=J9_ (ahead.drop k) p.key) (fun k=>ahead.length-k) 0 ⟨rfl,trivial⟩ trivial ?_ ?_
  · exact⟨Nat.zero_le _,rfl⟩
  rintro k hp24;obtain⟨hk1,hk2⟩:=hp24;refine gx tv19 6 ?_;refine cnd rfl (fun h25=>?_) (fun h25=>?_)
  · have p26:=dt h25;obtain⟨c27,hc28⟩:=getE (xs:=ahead) (m:=k) (by omega);have c27_w:=Pair.pwf (w.2.1.2 c27 (List.mem_of_getElem? hc28));refine gx tv19 6 ?_;refine q1 (qidx tv19 k rfl rfl rfl hc28 rfl rfl rfl rfl) rfl fun w29=>?_;refine gm tv19 14 [1] fun B31=>?_;refine cnd rfl (fun h32=>?_) (fun h32=>?_)
    · have p33:=dt h32;refine gx tv19 11 ?_;refine rt1 rfl rfl (ple ?_);have e9:=findP_hit hk2 (C4_ hc28) (by assumption)
      clear hk2
      refine congrArg (PV.int .i64) ?_
      rw[H5_]
      simp only[bl1] at *
      first|(simp[*];done)|(simp[*];omega)|((repeat' split)<;>first|rfl|omega|(exfalso;simp_all;done)|(exfalso;simp_all;omega)|grind)
    have p34:=df h32;refine gy tv19 7 ?_;refine next (k+1) rfl rfl ⟨rfl,trivial⟩ trivial ?_ ?_
    · omega
    exact⟨by omega,findP_miss hk2 (C4_ hc28) (by assumption)⟩
  have p35:=df h25;refine gx tv19 11 ?_;refine rt1 rfl rfl (ple ?_);have e9:J9_ ahead p.key=none:=by rw[hk2,List.drop_of_length_le (by omega)];rfl
  clear hk2
  refine congrArg (PV.int .i64) ?_
  rw[H5_]
  simp only[bl1] at *
  first|(simp[*];done)|(simp[*];omega)|((repeat' split)<;>first|rfl|omega|(exfalso;simp_all;done)|(exfalso;simp_all;omega)|grind)
theorem r9_Check (h:List Pair):Fn Tryz.prog gb 305 [.sl Pair.pc h] (.int .i64 (Fo_ h)):=by
  refine fC Tryz.func305 tv19 Tryz.ntmps305 fun w N H hG=>?_;refine gx tv19 13 ?_;refine cn rfl (fun p2=>?_) fun p3=>?_
  · refine gx tv19 7 ?_;refine rt1 rfl rfl (ple ?_)
    simp[Fo_, *]
  refine gx tv19 11 ?_;refine loop (ι:=Nat) [0,6,7,8,9,10] [] (fun k=>[(11, .int .i64 (k:Int))]) (fun k=>[]) (fun k=>k<=h.length/\Ir_ [] h=Ir_ (h.take k) (h.drop k)) (fun k=>h.length-k) 0 ⟨rfl,trivial⟩ trivial ?_ ?_
  · exact⟨Nat.zero_le _,rfl⟩
  rintro k hp4;obtain⟨hk1,hk2⟩:=hp4;refine gx tv19 6 ?_;refine cn rfl (fun p6=>?_) fun p19=>?_
  · obtain⟨c7,hc8⟩:=getE (xs:=h) (m:=k) (by omega);have c7_w:=Pair.pwf (w.1.2 c7 (List.mem_of_getElem? hc8));refine gx tv19 7 ?_;refine q1 (qidx tv19 k rfl rfl rfl hc8 rfl rfl rfl rfl) rfl fun w9=>?_;refine gm tv19 7 [0] fun B11=>?_;refine aN [1,2,3,4,5,6] 6 mixd ?_;refine gX tv19 [0,1,2] 3 ?_;refine vq 3 (lshi tv19 k rfl rfl rfl rfl rfl (fun _=>rfl) rfl (by omega)) rfl (by kernel_rfl) rfl fun w12=>?_;refine vC 4 rfl (r9_Pair _ _) rfl fun w13=>?_;have :=S4_ c7 (h.take k);refine gX tv19 [5] 0 ?_;refine vD ?_;refine gx tv19 7 ?_;refine cnd rfl (fun h14=>?_) (fun h14=>?_)
    · have h15:=Ds_ h14;have p16:=df h15;refine gx tv19 12 ?_;refine rt1 rfl rfl (ple ?_)
      unfold Fo_
      rw[if_neg (by omega),hk2,C4_ hc8]
      simp only[Ir_]
      rw[if_pos (by omega)]
    have h17:=D2_ h14;have p18:=dt h17;refine gy tv19 7 ?_;refine next (k+1) rfl rfl ⟨rfl,trivial⟩ trivial ?_ ?_
    · omega
    refine⟨by omega,?_⟩
    rw[hk2,C4_ hc8,takeE hc8]
    simp only[Ir_]
    rw[if_neg (by omega)]
  refine gx tv19 11 ?_;refine rt1 rfl rfl (ple ?_)
  unfold Fo_
  rw[if_neg (by omega),hk2,List.drop_of_length_le (by omega)]
  rfl
abbrev ty251:TI:=⟨.agg [(0,1),(1,1),(2,1),(3,1),(4,1),(5,1)],6,88,[.str [], .str [], .bool false, .str [], .sl Pair.pc [], .bool false]⟩
def tbv20:Tb:=[(9,ty9),(64,ty64),(66,ty66),(67,ty67),(69,ty69),(71,ty71),(73,ty73),(251,ty251),(268,ty268)]
theorem tv20:tbB Tryz.prog tbv20=true:=by kernel_rfl
theorem Xh_ (h:List Pair):Fn Tryz.prog gb 101 [.sl Pair.pc h] (.bool (L7_ h)):=by
  refine fC Tryz.func101 tv20 Tryz.ntmps101 fun w N H hG=>?_;refine gx tv20 13 ?_;refine cn rfl (fun p2=>?_) fun p3=>?_
  · refine gx tv20 7 ?_;refine rt1 rfl rfl (ple ?_);exact congrArg PV.bool (by simp[L7_];omega)
  refine gx tv20 11 ?_;refine loop (ι:=Nat) [0,5,6,7,8,9] [] (fun k=>[(10, .int .i64 (k:Int))]) (fun k=>[]) (fun k=>k<=h.length/\h.all Uc_=(h.drop k).all Uc_) (fun k=>h.length-k) 0 ⟨rfl,trivial⟩ trivial ?_ ?_
  · exact⟨Nat.zero_le _,rfl⟩
  rintro k hp4;obtain⟨hk1,hk2⟩:=hp4;refine gx tv20 6 ?_;refine cn rfl (fun p6=>?_) fun p17=>?_
  · obtain⟨c7,hc8⟩:=getE (xs:=h) (m:=k) (by omega);have c7_w:=Pair.pwf (w.1.2 c7 (List.mem_of_getElem? hc8));refine gx tv20 6 ?_;refine q1 (qidx tv20 k rfl rfl rfl hc8 rfl rfl rfl rfl) rfl fun w9=>?_;refine gmy tv20 19 [0] fun B11=>?_;refine cnd rfl (fun h12=>?_) (fun h12=>?_)
    · refine gx tv20 11 ?_;refine rt1 rfl rfl (ple ?_);exact congrArg PV.bool (by unfold L7_;rw[all_miss hk2 (C4_ hc8) (by simp[Uc_];first|omega|grind)];simp)
    have h13:=orl h12;have p14:=df h13;have h15:=orr h12;have p16:=df h15;refine gy tv20 7 ?_;refine next (k+1) rfl rfl ⟨rfl,trivial⟩ trivial ?_ ?_
    · omega
    exact⟨by omega,all_step hk2 (C4_ hc8) (by simp[Uc_];omega)⟩
  refine gx tv20 11 ?_;refine rt1 rfl rfl (ple ?_);exact congrArg PV.bool (by unfold L7_;rw[all_end hk2 (by omega)];simp;omega)
theorem l13_Light (m:Mail):Fn Tryz.prog gb 102 [.agg (Mail.pc m)] (.bool (Pz_ m)):=by
  refine fC Tryz.func102 tv20 Tryz.ntmps102 fun w N H hG=>?_;have m_w:=Mail.pwf w.1;have m_w':=m_w
  simp only[Mail.wf] at m_w'
  have m_head_k:=Mail.kd3 w.1;have m_head_k2:m.head.length<=140737488355328:=w.1.2.2.2.1.1;refine gmy tv20 21 [0] fun B2=>?_;refine callg rfl (fun hc=>(Xh_ _)) rfl ⟨(fun hc=>hc),trivial⟩ rfl rfl fun _=>?_;refine gy tv20 11 ?_;refine rt1 rfl rfl (ple ?_);refine congrArg PV.bool ?_
  unfold Pz_
  first|(simp only[*,Bool.and_true,Bool.true_and,Bool.false_and,Bool.and_false,decide_true,decide_false];done)|(rw[Bool.eq_iff_iff];simp[and_assoc];done)|(rw[Bool.eq_iff_iff];simp;grind)
theorem l22_Light (d:DeedR):Fn Tryz.prog gb 39 [.agg (DeedR.pc d)] (.bool (Oy_ d)):=by
  refine fC Tryz.func39 tv20 Tryz.ntmps39 fun w N H hG=>?_;have d_w:=DeedR.pwf w.1;have d_w':=d_w
  simp only[DeedR.wf,ShopR.wf,QueueR.wf,BindR.wf,Mail.wf] at d_w'
  have d_bind_want_k:=DeedR.kd13 w.1;have d_bind_want_k2:d.bind.want.length<=140737488355328:=w.1.2.2.2.2.2.2.2.2.2.2.2.2.2.1.1;have d_mail_head_k:=DeedR.kd24 w.1;have d_mail_head_k2:d.mail.head.length<=140737488355328:=w.1.2.2.2.2.2.2.2.2.2.2.2.2.2.2.2.2.2.2.2.2.2.2.2.2.1.1;refine gm tv20 35 [0] fun B2=>?_;refine q1 (qmaxN (z:=(d.shop.name.length:Int)) (r:=(max (max (max (max (max (max (d.shop.name.length:Int) (d.shop.to'.length:Int)) (d.queue.name.length:Int)) (d.queue.dead.length:Int)) (d.bind.shop.length:Int)) (d.bind.to'.length:Int)) (d.name.length:Int))) [(d.shop.to'.length:Int),(d.queue.name.length:Int),(d.queue.dead.length:Int),(d.bind.shop.length:Int),(d.bind.to'.length:Int),(d.name.length:Int)] rfl rfl (rg_i64 (by omega))) rfl fun w3=>?_;refine gy tv20 22 ?_;refine callg rfl (fun hc=>(Xh_ _)) rfl ⟨(fun hc=>hc),trivial⟩ rfl rfl fun _=>?_;refine gy tv20 4 ?_;refine callg rfl (fun hc=>(l13_Light _)) rfl ⟨(fun hc=>hc),trivial⟩ rfl rfl fun _=>?_;refine gy tv20 5 ?_;refine rt1 rfl rfl (ple ?_);refine congrArg PV.bool ?_
  unfold Oy_
  first|(simp only[*,Bool.and_true,Bool.true_and,Bool.false_and,Bool.and_false,decide_true,decide_false];done)|(rw[Bool.eq_iff_iff];simp[and_assoc];done)|(rw[Bool.eq_iff_iff];simp;grind)
theorem l14_To (x:BindR) (hl:x.want.length<=1000000:=by first|omega|(have :=Py_ d (by assumption);omega)):Fn Tryz.prog gb 135 [.agg (BindR.pc x)] (.agg (BindR.pc x)):=by
  refine fC Tryz.func135 tv20 Tryz.ntmps135 fun w N H hG=>?_;refine gm tv20 15 [0,1,2] fun B2=>?_;refine ef (bsl 3 Pair.pc [] tv20 rfl rfl rfl rfl rfl (fun _=>rfl) rfl (by decide) (by decide) rfl fun u5=>?_);refine gx tv20 2 ?_;refine ef (app tv20 x.want rfl rfl rfl rfl rfl rfl rfl rfl rfl (src_l rfl (fun _=>rfl)) (by first|omega|(simp;omega)) rfl fun u6=>?_);refine gx tv20 1 ?_;refine give 3 rfl ?_;refine ef (sO tv20 ?_);refine gm tv20 9 [] fun _=>?_;refine rt1 rfl rfl (ple ?_)
  rfl
def tbv21:Tb:=[(5,ty5),(9,ty9),(67,ty67),(71,ty71)]
theorem tv21:tbB Tryz.prog tbv21=true:=by kernel_rfl
theorem r13_Check (m:Mail):Fn Tryz.prog gb 276 [.agg (Mail.pc m)] (.int .i64 (E7_ m)):=by
  refine fC Tryz.func276 tv21 Tryz.ntmps276 fun w N H hG=>?_;refine gm tv21 10 [0] fun B2=>?_;refine call (Z6_ _) rfl rfl fun w3=>?_;refine gx tv21 10 ?_;refine cnd rfl (fun h4=>?_) (fun h4=>?_)
  · have p5:=dt h4;refine gx tv21 3 ?_;refine call (r4_Key _ _) rfl rfl fun w6=>?_;refine gx tv21 10 ?_;refine cnd rfl (fun h7=>?_) (fun h7=>?_)
    · have p8:=dt h7;refine gx tv21 3 ?_;refine call (r9_Check _) rfl rfl fun w9=>?_;refine gy tv21 16 ?_;refine cnd rfl (fun h10=>?_) (fun h10=>?_)
      · have h11:=bl h10;have p12:=dt h11;have h13:=br h10;have p14:=dt h13;refine gy tv21 16 ?_;refine cnd rfl (fun h15=>?_) (fun h15=>?_)
        · have h16:=bl h15;have p17:=dt h16;have h18:=br h15;have p19:=dt h18;refine gx tv21 11 ?_;refine rt1 rfl rfl (ple ?_);have hbo:Dj_ false=[]:=rfl
          simp only[hbo] at *
          refine congrArg (PV.int .i64) ?_
          simp only[bl1] at *
          unfold E7_
          (repeat' split)<;>first|rfl|(exfalso;omega)|(exfalso;simp_all;done)|(exfalso;simp_all;omega)|grind
        refine gx tv21 9 ?_;refine rt1 rfl rfl (ple ?_);have hbo:Dj_ false=[]:=rfl
        simp only[hbo] at *
        refine congrArg (PV.int .i64) ?_
        simp only[bl1] at *
        unfold E7_
        (repeat' split)<;>first|rfl|(exfalso;omega)|(exfalso;simp_all;done)|(exfalso;simp_all;omega)|grind
      refine gy tv21 14 ?_;refine cnd rfl (fun h20=>?_) (fun h20=>?_)
      · have h21:=bl h20;have p22:=dt h21;have h23:=br h20;have p24:=dt h23;refine gx tv21 11 ?_;refine rt1 rfl rfl (ple ?_);have hbo:Dj_ false=[]:=rfl
        simp only[hbo] at *
        refine congrArg (PV.int .i64) ?_
        simp only[bl1] at *
        unfold E7_
        (repeat' split)<;>first|rfl|(exfalso;omega)|(exfalso;simp_all;done)|(exfalso;simp_all;omega)|grind
      refine gx tv21 9 ?_;refine rt1 rfl rfl (ple ?_);have hbo:Dj_ false=[]:=rfl
      simp only[hbo] at *
      refine congrArg (PV.int .i64) ?_
      simp only[bl1] at *
      unfold E7_
      (repeat' split)<;>first|rfl|(exfalso;omega)|(exfalso;simp_all;done)|(exfalso;simp_all;omega)|grind
    have p25:=df h7;refine gy tv21 15 ?_;refine cnd rfl (fun h26=>?_) (fun h26=>?_)
    · have h27:=bl h26;have p28:=dt h27;have h29:=br h26;have p30:=dt h29;refine gy tv21 16 ?_;refine cnd rfl (fun h31=>?_) (fun h31=>?_)
      · have h32:=bl h31;have p33:=dt h32;have h34:=br h31;have p35:=dt h34;refine gx tv21 11 ?_;refine rt1 rfl rfl (ple ?_);have hbo:Dj_ false=[]:=rfl
        simp only[hbo] at *
        refine congrArg (PV.int .i64) ?_
        simp only[bl1] at *
        unfold E7_
        (repeat' split)<;>first|rfl|(exfalso;omega)|(exfalso;simp_all;done)|(exfalso;simp_all;omega)|grind
      refine gx tv21 9 ?_;refine rt1 rfl rfl (ple ?_);have hbo:Dj_ false=[]:=rfl
      simp only[hbo] at *
      refine congrArg (PV.int .i64) ?_
      simp only[bl1] at *
      unfold E7_
      (repeat' split)<;>first|rfl|(exfalso;omega)|(exfalso;simp_all;done)|(exfalso;simp_all;omega)|grind
    refine gy tv21 14 ?_;refine cnd rfl (fun h36=>?_) (fun h36=>?_)
    · have h37:=bl h36;have p38:=dt h37;have h39:=br h36;have p40:=dt h39;refine gx tv21 11 ?_;refine rt1 rfl rfl (ple ?_);have hbo:Dj_ false=[]:=rfl
      simp only[hbo] at *
      refine congrArg (PV.int .i64) ?_
      simp only[bl1] at *
      unfold E7_
      (repeat' split)<;>first|rfl|(exfalso;omega)|(exfalso;simp_all;done)|(exfalso;simp_all;omega)|grind
    refine gx tv21 9 ?_;refine rt1 rfl rfl (ple ?_);have hbo:Dj_ false=[]:=rfl
    simp only[hbo] at *
    refine congrArg (PV.int .i64) ?_
    simp only[bl1] at *
    unfold E7_
    (repeat' split)<;>first|rfl|(exfalso;omega)|(exfalso;simp_all;done)|(exfalso;simp_all;omega)|grind
  have p41:=df h4;refine gx tv21 9 ?_;refine cndF rfl h4 ?_;refine gy tv21 15 ?_;refine cnd rfl (fun h42=>?_) (fun h42=>?_)
  · have h43:=bl h42;have p44:=dt h43;have h45:=br h42;have p46:=dt h45;refine gy tv21 16 ?_;refine cnd rfl (fun h47=>?_) (fun h47=>?_)
    · have h48:=bl h47;have p49:=dt h48;have h50:=br h47;have p51:=dt h50;refine gx tv21 11 ?_;refine rt1 rfl rfl (ple ?_);have hbo:Dj_ false=[]:=rfl
      simp only[hbo] at *
      refine congrArg (PV.int .i64) ?_
      simp only[bl1] at *
      unfold E7_
      (repeat' split)<;>first|rfl|(exfalso;omega)|(exfalso;simp_all;done)|(exfalso;simp_all;omega)|grind
    refine gx tv21 9 ?_;refine rt1 rfl rfl (ple ?_);have hbo:Dj_ false=[]:=rfl
    simp only[hbo] at *
    refine congrArg (PV.int .i64) ?_
    simp only[bl1] at *
    unfold E7_
    (repeat' split)<;>first|rfl|(exfalso;omega)|(exfalso;simp_all;done)|(exfalso;simp_all;omega)|grind
  refine gy tv21 14 ?_;refine cnd rfl (fun h52=>?_) (fun h52=>?_)
  · have h53:=bl h52;have p54:=dt h53;have h55:=br h52;have p56:=dt h55;refine gx tv21 11 ?_;refine rt1 rfl rfl (ple ?_);have hbo:Dj_ false=[]:=rfl
    simp only[hbo] at *
    refine congrArg (PV.int .i64) ?_
    simp only[bl1] at *
    unfold E7_
    (repeat' split)<;>first|rfl|(exfalso;omega)|(exfalso;simp_all;done)|(exfalso;simp_all;omega)|grind
  refine gx tv21 9 ?_;refine rt1 rfl rfl (ple ?_);have hbo:Dj_ false=[]:=rfl
  simp only[hbo] at *
  refine congrArg (PV.int .i64) ?_
  simp only[bl1] at *
  unfold E7_
  (repeat' split)<;>first|rfl|(exfalso;omega)|(exfalso;simp_all;done)|(exfalso;simp_all;omega)|grind
abbrev ty332:TI:=⟨.agg [(0,1),(1,1),(2,1),(3,1)],4,56,[.int .u8 0, .str [], .sl Pair.pc [], .bool false]⟩
def tbv22:Tb:=[(4,ty4),(5,ty5),(9,ty9),(67,ty67),(268,ty268),(332,ty332)]
theorem tv22:tbB Tryz.prog tbv22=true:=by kernel_rfl
theorem Uk_ (r:Rule):Fn Tryz.prog gb 226 [.agg (Rule.pc r)] (.int .i64 (Ti_ r)):=by
  refine fC Tryz.func226 tv22 Tryz.ntmps226 fun w N H hG=>?_;have r_w:=Rule.pwf w.1;have r_w':=r_w
  simp only[Rule.wf] at r_w'
  have r_want_k:=Rule.kd2 w.1;have r_want_k2:r.want.length<=140737488355328:=w.1.2.2.1.1;refine gm tv22 21 [0] fun B2=>?_;refine cn rfl (fun p4=>?_) fun p5=>?_
  · refine gx tv22 8 ?_;refine rt1 rfl rfl (ple ?_);refine congrArg (PV.int .i64) ?_
    (try simp only[bl1] at *)
    unfold Ti_
    repeat (first|rw[if_pos (by omega)]|rw[if_neg (by omega)])
    all_goals first|done|rfl|omega
  refine gx tv22 8 ?_;refine cn rfl (fun p7=>?_) fun p15=>?_
  · refine gx tv22 3 ?_;refine call (Y1_ _) rfl rfl fun w8=>?_;refine gx tv22 11 ?_;refine cnd rfl (fun h9=>?_) (fun h9=>?_)
    · have h10:=Ds_ h9;have p11:=df h10;refine gx tv22 8 ?_;refine rt1 rfl rfl (ple ?_);refine congrArg (PV.int .i64) ?_
      (try simp only[bl1] at *)
      unfold Ti_
      repeat (first|rw[if_pos (by omega)]|rw[if_neg (by omega)])
      all_goals first|done|rfl|omega
    have h12:=D2_ h9;have p13:=dt h12;refine gx tv22 6 ?_;refine call (J4_ _) rfl rfl fun w14=>?_;refine gx tv22 4 ?_;refine rt1 rfl rfl (ple ?_);refine congrArg (PV.int .i64) ?_
    (try simp only[bl1] at *)
    unfold Ti_
    repeat (first|rw[if_pos (by omega)]|rw[if_neg (by omega)])
    all_goals first|done|rfl|omega
  refine gx tv22 3 ?_;refine call (Wj_ _) rfl rfl fun w16=>?_;refine gx tv22 11 ?_;refine cnd rfl (fun h17=>?_) (fun h17=>?_)
  · have h18:=Ds_ h17;have p19:=df h18;refine gx tv22 8 ?_;refine rt1 rfl rfl (ple ?_);refine congrArg (PV.int .i64) ?_
    (try simp only[bl1] at *)
    unfold Ti_
    repeat (first|rw[if_pos (by omega)]|rw[if_neg (by omega)])
    all_goals first|done|rfl|omega
  have h20:=D2_ h17;have p21:=dt h20;refine gx tv22 6 ?_;refine call (J4_ _) rfl rfl fun w22=>?_;refine gx tv22 4 ?_;refine rt1 rfl rfl (ple ?_);refine congrArg (PV.int .i64) ?_
  (try simp only[bl1] at *)
  unfold Ti_
  repeat (first|rw[if_pos (by omega)]|rw[if_neg (by omega)])
  all_goals first|done|rfl|omega
theorem rule_heads (r:Rule) (h:List Pair):Fn Tryz.prog gb 297 [.agg (Rule.pc r), .sl Pair.pc h] (.bool (Le_ r.all h r.want)):=by
  refine fC Tryz.func297 tv22 Tryz.ntmps297 fun w N H hG=>?_;have r_want_l:r.want.length<=140737488355328:=w.1.2.2.1.1;have h_l:h.length<=140737488355328:=w.2.1.1;refine gm tv22 20 [0] fun B2=>?_;refine loop (ι:=Nat) [0,1,2,10,11,12] [0] (fun k=>[(13, .int .i64 (k:Int))]) (fun k=>[]) (fun k=>k<=r.want.length/\Le_ r.all h r.want=Le_ r.all h (r.want.drop k)) (fun k=>r.want.length-k) 0 ⟨rfl,trivial⟩ trivial ?_ ?_
  · exact⟨Nat.zero_le _,rfl⟩
  rintro k hp3;obtain⟨hk1,hk2⟩:=hp3;refine gx tv22 6 ?_;refine cn rfl (fun p5=>?_) fun p25=>?_
  · obtain⟨c6,hc7⟩:=getE (xs:=r.want) (m:=k) (by omega);have c6_w:=Pair.pwf (w.1.2.2.1.2 c6 (List.mem_of_getElem? hc7));refine gx tv22 6 ?_;refine q1 (qidx tv22 k rfl rfl rfl hc7 rfl rfl rfl rfl) rfl fun w8=>?_;refine gm tv22 10 [1] fun B10=>?_;refine call (W4_ _ _) rfl rfl fun w11=>?_;refine gm tv22 14 [2] fun B13=>?_;refine q1g [26,27] rfl (fun hc=>saeq rfl rfl eqg268 (veq268 ((J9_ h c6.key).getD Pair.zero) c6)) ⟨(fun hc=>hc),(fun hc=>hc),trivial⟩ rfl rfl rfl fun _=>?_;refine gy tv22 15 ?_;refine cnd rfl (fun h14=>?_) (fun h14=>?_)
    · have h15:=bl h14;have h16:=bl h15;have h17:=br h15;have p18:=dt h17;have h19:=br h14;refine gy tv22 8 ?_;refine next (k+1) rfl rfl ⟨rfl,trivial⟩ trivial ?_ ?_
      · omega
      refine⟨by omega,?_⟩
      rw[hk2,C4_ hc7]
      simp only[Le_]
      first|(simp only[hasP];simp[*];done)|(unfold hasP;simp_all;done)|(unfold hasP;grind)
    refine gx tv22 6 ?_;refine cnd rfl (fun h20=>?_) (fun h20=>?_)
    · have h21:=bl h20;have h22:=br h20;have p23:=dt h22;refine gx tv22 13 ?_;refine rt1 rfl rfl (ple ?_);refine congrArg PV.bool ?_
      rw[hk2,C4_ hc7]
      simp only[Le_]
      first|(simp only[hasP];simp[*];done)|(unfold hasP;simp_all;done)|(unfold hasP;grind)
    refine gx tv22 7 ?_;refine cnd rfl (fun h24=>?_) (fun h24=>?_)
    · refine gx tv22 13 ?_;refine rt1 rfl rfl (ple ?_);refine congrArg PV.bool ?_
      rw[hk2,C4_ hc7]
      simp only[Le_]
      first|(simp only[hasP];simp[*];done)|(unfold hasP;simp_all;done)|(unfold hasP;grind)
    refine gy tv22 8 ?_;refine next (k+1) rfl rfl ⟨rfl,trivial⟩ trivial ?_ ?_
    · omega
    refine⟨by omega,?_⟩
    rw[hk2,C4_ hc7]
    simp only[Le_]
    first|(simp only[hasP];simp[*];done)|(unfold hasP;simp_all;done)|(unfold hasP;grind)
  refine gx tv22 14 ?_;refine rt1 rfl rfl (ple ?_);refine congrArg PV.bool ?_
  rw[hk2,List.drop_of_length_le (by omega)]
  rfl
theorem Tj_ (r:Rule) (key:Bs) (h:List Pair) (hrk:r.key.length<4294967281:=by first|omega|(simp;done)|decide) (hk:key.length<4294967281:=by first|omega|(simp;done)|decide):Fn Tryz.prog gb 256 [.agg (Rule.pc r), .str key, .sl Pair.pc h] (.bool (Pu_ r key h)):=by
  refine fC Tryz.func256 tv22 Tryz.ntmps256 fun w N H hG=>?_;refine gm tv22 20 [0] fun B2=>?_;refine cn rfl (fun p4=>?_) fun p5=>?_
  · refine gx tv22 12 ?_;refine rt1 rfl rfl (ple ?_);refine congrArg PV.bool ?_
    first|(simp[Pu_, *];done)|(simp[Pu_, *];omega)
  refine gx tv22 6 ?_;refine cn rfl (fun p7=>?_) fun p9=>?_
  · refine gx tv22 5 ?_;refine call (J3_ _ _) rfl rfl fun w8=>?_;refine gx tv22 6 ?_;refine rt1 rfl rfl (ple ?_);refine congrArg PV.bool ?_
    first|(simp[Pu_, *];done)|(simp[Pu_, *];omega)
  refine gx tv22 6 ?_;refine cn rfl (fun p11=>?_) fun p13=>?_
  · refine gx tv22 4 ?_;refine call (rule_heads _ _) rfl rfl fun w12=>?_;refine gx tv22 6 ?_;refine rt1 rfl rfl (ple ?_);refine congrArg PV.bool ?_
    first|(simp[Pu_, *];done)|(simp[Pu_, *];omega)
  refine gx tv22 9 ?_;refine rt1 rfl rfl (ple ?_);refine congrArg PV.bool ?_
  first|(simp[Pu_, *];done)|(simp[Pu_, *];omega)
theorem match_Same (a:Rule) (b:Rule):Fn Tryz.prog gb 234 [.agg (Rule.pc a), .agg (Rule.pc b)] (.bool (decide (a=b))):=by
  refine fC Tryz.func234 tv22 Tryz.ntmps234 fun w N H hG=>?_;refine gmy tv22 33 [0,1] fun B2=>?_;refine callg rfl (fun hc=>(eq_Pair _ _)) rfl ⟨(fun hc=>hc),(fun hc=>hc),trivial⟩ rfl rfl fun _=>?_;refine gy tv22 5 ?_;refine rt1 rfl rfl (ple ?_);exact congrArg PV.bool (by rw[Bool.eq_iff_iff];first|(simp[Rule.eq_iff,and_assoc];done)|(simp[Rule.eq_iff];grind))
abbrev ty40:TI:=⟨.slc 64,1,24,[.sl ShopR.pc []]⟩
abbrev ty43:TI:=⟨.agg [(0,1),(1,1)],2,48,[.sl ShopR.pc [], .sl BindR.pc []]⟩
def tbv23:Tb:=[(5,ty5),(9,ty9),(40,ty40),(43,ty43),(64,ty64),(106,Ns_)]
theorem tv23:tbB Tryz.prog tbv23=true:=by kernel_rfl
theorem eq_Str (a:List Bs) (b:List Bs):Fn Tryz.prog gb 19 [.sl strc a, .sl strc b] (.bool (decide (a=b))):=by
  refine fC Tryz.func19 tv23 Tryz.ntmps19 fun w N H hG=>?_;have a_l:a.length<=140737488355328:=w.1.1;have b_l:b.length<=140737488355328:=w.2.1.1;refine gx tv23 15 ?_;refine cnd rfl (fun h1=>?_) (fun h1=>?_)
  · have h2:=Ds_ h1;have p3:=df h2;refine gx tv23 7 ?_;refine rt1 rfl rfl (ple ?_);exact congrArg PV.bool (eqL_len (by assumption)).symm
  have h4:=D2_ h1;have p5:=dt h4;refine gx tv23 11 ?_;refine loop (ι:=Nat) [0,1,6,7,8,9,10,11,12] [] (fun k=>[(13, .int .i64 (k:Int))]) (fun k=>[]) (fun k=>k<=a.length /\ decide (a=b) = decide (a.drop k=b.drop k)) (fun k=>a.length-k) 0 ⟨rfl,trivial⟩ trivial ?_ ?_
  · exact⟨Nat.zero_le _,rfl⟩
  rintro k hp6;obtain⟨hk1,hk2⟩:=hp6;refine gx tv23 6 ?_;refine cnd rfl (fun h7=>?_) (fun h7=>?_)
  · have p8:=dt h7;refine gx tv23 11 ?_;refine aN [0,1,2,3,4,5] 9 mixd ?_;refine gX tv23 [0,1] 7 ?_;obtain⟨c9,hc10⟩:=getE (xs:=a) (m:=k) (by omega);have c9_l:c9.length<=9223372036854775807:=(w.1.2 c9 (List.mem_of_getElem? hc10)).1;refine vq 2 (qidx tv23 k rfl rfl rfl hc10 rfl rfl rfl rfl) rfl (by kernel_rfl) rfl fun w11=>?_;refine gX tv23 [3,4,5] 3 ?_;obtain⟨c12,hc13⟩:=getE (xs:=b) (m:=k) (by omega);have c12_l:c12.length<=9223372036854775807:=(w.2.1.2 c12 (List.mem_of_getElem? hc13)).1;refine vq 6 (qidx tv23 k rfl rfl rfl hc13 rfl rfl rfl rfl) rfl (by kernel_rfl) rfl fun w14=>?_;refine gX tv23 [7,8] 0 ?_;refine vD ?_;refine gx tv23 1 ?_;refine cnd rfl (fun h15=>?_) (fun h15=>?_)
    · have h16:=Ds_ h15;have p17:=df h16;refine gx tv23 11 ?_;refine rt1 rfl rfl (ple ?_);exact congrArg PV.bool (eqL_miss hk2 (C4_ hc10) (C4_ hc13) (by assumption)).symm
    have h18:=D2_ h15;have p19:=dt h18;refine gy tv23 7 ?_;refine next (k+1) rfl rfl ⟨rfl,trivial⟩ trivial ?_ ?_
    · omega
    exact⟨by omega,eqL_step hk2 (C4_ hc10) (C4_ hc13) (by assumption)⟩
  have p20:=df h7;refine gx tv23 11 ?_;refine rt1 rfl rfl (ple ?_);exact congrArg PV.bool (eqL_end hk2 (by omega) (by omega)).symm
theorem index_Str (l:List Bs) (x:Bs):Fn Tryz.prog gb 322 [.sl strc l, .str x] (.int .i64 (idxP (fun y=>decide (x=y)) l)):=by
  refine fC Tryz.func322 tv23 Tryz.ntmps322 fun w N H hG=>?_;have l_l:l.length<=140737488355328:=w.1.1;have x_l:x.length<=9223372036854775807:=w.2.1;refine gx tv23 14 ?_;refine loop (ι:=Nat) [0,1,6,7] [] (fun k=>[(8, .int .i64 (k:Int))]) (fun k=>[]) (fun k=>k<=l.length/\idxP (fun y=>decide (x=y)) l=idxF (fun y=>decide (x=y)) k (l.drop k)) (fun k=>l.length-k) 0 ⟨rfl,trivial⟩ trivial ?_ ?_
  · exact⟨Nat.zero_le _,rfl⟩
  rintro k hp1;obtain⟨hik1,hik2⟩:=hp1;refine gx tv23 6 ?_;refine cnd rfl (fun h2=>?_) (fun h2=>?_)
  · have p3:=dt h2;obtain⟨c4,hc5⟩:=getE (xs:=l) (m:=k) (by omega);have c4_l:c4.length<=9223372036854775807:=(w.1.2 c4 (List.mem_of_getElem? hc5)).1;refine gx tv23 15 ?_;refine q1 (qidx tv23 k rfl rfl rfl hc5 rfl rfl rfl rfl) rfl fun w6=>?_;refine gx tv23 4 ?_;refine cnd rfl (fun h7=>?_) (fun h7=>?_)
    · have p8:=dt h7;refine gx tv23 12 ?_;refine rt1 rfl rfl (ple ?_);exact congrArg (PV.int .i64) (L1_ hik2 (C4_ hc5) (by first|assumption|(simp[*];done))).symm
    have p9:=df h7;refine gy tv23 7 ?_;refine next (k+1) rfl rfl ⟨rfl,trivial⟩ trivial ?_ ?_
    · omega
    exact⟨by omega,Jw_ hik2 (C4_ hc5) (by assumption)⟩
  have p10:=df h2;refine gx tv23 11 ?_;refine rt1 rfl rfl (ple ?_);exact congrArg (PV.int .i64) (L0_ hik2 (by omega)).symm
theorem Wo_ (l:List Bs) (x:Bs):Fn Tryz.prog gb 298 [.sl strc l, .str x] (.bool (decide (x∈l))):=by
  refine fC Tryz.func298 tv23 Tryz.ntmps298 fun w N H hG=>?_;refine gx tv23 9 ?_;refine call (index_Str _ _) rfl rfl fun w1=>?_;have :=idxP_r (fun y=>decide (x=y)) l;refine gx tv23 5 ?_;refine rt1 rfl rfl (ple ?_);refine congrArg PV.bool ?_
  rw[Bool.eq_iff_iff,decide_eq_true_eq,decide_eq_true_eq,idxP_any]
  simp
theorem shop_check (x:ShopR):Fn Tryz.prog gb 218 [.agg (ShopR.pc x)] (.int .i64 (Pf_ x)):=by
  refine fC Tryz.func218 tv23 Tryz.ntmps218 fun w N H hG=>?_;refine gm tv23 11 [0] fun B2=>?_;refine call (Dd_ _) rfl rfl fun w3=>?_;refine gx tv23 9 ?_;refine cnd rfl (fun h4=>?_) (fun h4=>?_)
  · have h5:=Ds_ h4;have p6:=df h5;refine gx tv23 8 ?_;refine rt1 rfl rfl (ple ?_);refine congrArg (PV.int .i64) ?_
    simp only[bl1] at *
    unfold Pf_
    (repeat' split)<;>first|rfl|(exfalso;omega)|(exfalso;simp_all;done)|(exfalso;simp_all;omega)|grind
  have h7:=D2_ h4;have p8:=dt h7;refine gx tv23 12 ?_;refine cnd rfl (fun h9=>?_) (fun h9=>?_)
  · have p10:=dt h9;refine gx tv23 8 ?_;refine rt1 rfl rfl (ple ?_);refine congrArg (PV.int .i64) ?_
    simp only[bl1] at *
    unfold Pf_
    (repeat' split)<;>first|rfl|(exfalso;omega)|(exfalso;simp_all;done)|(exfalso;simp_all;omega)|grind
  have p11:=df h9;refine gx tv23 8 ?_;refine cnd rfl (fun h12=>?_) (fun h12=>?_)
  · have p13:=dt h12;refine gx tv23 4 ?_;refine call (Dd_ _) rfl rfl fun w14=>?_;refine gx tv23 6 ?_;refine rt1 rfl rfl (ple ?_);refine congrArg (PV.int .i64) ?_
    simp only[bl1] at *
    unfold Pf_
    (repeat' split)<;>first|rfl|(exfalso;omega)|(exfalso;simp_all;done)|(exfalso;simp_all;omega)|grind
  have p15:=df h12;refine gx tv23 8 ?_;refine cnd rfl (fun h16=>?_) (fun h16=>?_)
  · have h17:=Ds_ h16;have p18:=df h17;refine gx tv23 8 ?_;refine rt1 rfl rfl (ple ?_);refine congrArg (PV.int .i64) ?_
    simp only[bl1] at *
    unfold Pf_
    (repeat' split)<;>first|rfl|(exfalso;omega)|(exfalso;simp_all;done)|(exfalso;simp_all;omega)|grind
  have h19:=D2_ h16;have p20:=dt h19;refine gx tv23 9 ?_;refine rt1 rfl rfl (ple ?_);refine congrArg (PV.int .i64) ?_
  simp only[bl1] at *
  unfold Pf_
  (repeat' split)<;>first|rfl|(exfalso;omega)|(exfalso;simp_all;done)|(exfalso;simp_all;omega)|grind
theorem Om_ (b:BookR) (name:Bs):Fn Tryz.prog gb 199 [.agg (BookR.pc b), .str name] (.tup [.agg (ShopR.pc ((F2_ b.shops name).getD ShopR.zero)), .bool ((F2_ b.shops name).isSome)]):=by
  refine fC Tryz.func199 tv23 Tryz.ntmps199 fun w N H hG=>?_;have b_shops_l:b.shops.length<=140737488355328:=w.1.1.1;have b_binds_l:b.binds.length<=140737488355328:=w.1.2.1.1;have name_l:name.length<=9223372036854775807:=w.2.1;refine gm tv23 17 [0,1] fun B2=>?_;refine loop (ι:=Nat) [0,1,2,4,8,9,10] [0,1] (fun k=>[(11, .int .i64 (k:Int))]) (fun k=>[]) (fun k=>k<=b.shops.length/\F2_ b.shops name=F2_ (b.shops.drop k) name) (fun k=>b.shops.length-k) 0 ⟨rfl,trivial⟩ trivial ?_ ?_
  · exact⟨Nat.zero_le _,rfl⟩
  rintro k hp4;obtain⟨hk1,hk2⟩:=hp4;refine gx tv23 6 ?_;refine cnd rfl (fun h5=>?_) (fun h5=>?_)
  · have p6:=dt h5;obtain⟨c7,hc8⟩:=getE (xs:=b.shops) (m:=k) (by omega);have c7_w:=ShopR.pwf (w.1.1.2 c7 (List.mem_of_getElem? hc8));refine gx tv23 6 ?_;refine q1 (qidx tv23 k rfl rfl rfl hc8 rfl rfl rfl rfl) rfl fun w9=>?_;refine gm tv23 13 [2] fun B11=>?_;refine cnd rfl (fun h12=>?_) (fun h12=>?_)
    · have p13:=dt h12;refine gm tv23 13 [] fun _=>?_;refine rt2 rfl rfl ?_;refine ple ?_;have e:=shopOf_hit hk2 (C4_ hc8) (by assumption)
      rw[e]
      rfl
    have p15:=df h12;refine gy tv23 7 ?_;refine next (k+1) rfl rfl ⟨rfl,trivial⟩ trivial ?_ ?_
    · (try simp only[]);omega
    exact⟨by omega,shopOf_miss hk2 (C4_ hc8) (by assumption)⟩
  have p16:=df h5;refine gm tv23 13 [] fun _=>?_;refine rt2 rfl rfl ?_;refine ple ?_
  rw[List.drop_of_length_le (by omega)] at hk2
  rw[hk2]
  rfl
abbrev ty41:TI:=⟨.slc 69,1,24,[.sl BindR.pc []]⟩
def tbv24:Tb:=[(4,ty4),(9,ty9),(41,ty41),(67,ty67),(69,ty69),(268,ty268),(332,ty332)]
theorem tv24:tbB Tryz.prog tbv24=true:=by kernel_rfl
theorem Ol_ (x:BindR) (sort:Int):Fn Tryz.prog gb 225 [.agg (BindR.pc x), .int .u8 sort] (.agg (Rule.pc (Ku_ x sort))):=by
  refine fC Tryz.func225 tv24 Tryz.ntmps225 fun w N H hG=>?_;refine gm tv24 20 [0,1] fun B2=>?_;refine rt1 rfl rfl (ple ?_)
  rfl
theorem bind_same (x:BindR) (y:BindR):Fn Tryz.prog gb 170 [.agg (BindR.pc x), .agg (BindR.pc y)] (.bool (decide (x=y))):=by
  refine fC Tryz.func170 tv24 Tryz.ntmps170 fun w N H hG=>?_;refine gm tv24 8 [0,1] fun B2=>?_;refine aN [2,3,4,5,6,7] 27 mixd ?_;refine gXy tv24 [0,1,2,3,4,5,6,7,8,9,10,11,12,13,14,15,16,17,18,19,20,22] 5 ?_;refine vE 21 rfl (ecallg rfl (fun hc=>(Ol_ _ _)) rfl ⟨(fun hc=>hc),trivial⟩ rfl rfl fun _=>?_);refine vE 23 rfl (ecallg rfl (fun hc=>(Ol_ _ _)) rfl ⟨(fun hc=>hc),trivial⟩ rfl rfl fun _=>?_);refine vcallg 24 rfl (by kernel_rfl) rfl (fun hc=>(match_Same _ _)) rfl rfl ⟨(fun hc=>hc),(fun hc=>hc),trivial⟩ rfl fun _=>?_;refine gXy tv24 [25,26] 0 ?_;refine vD ?_;refine gx tv24 2 ?_;refine rt1 rfl rfl (ple ?_);exact congrArg PV.bool (by rw[Bool.eq_iff_iff];first|(simp[BindR.eq_iff,Ku_,and_assoc];done)|(simp[BindR.eq_iff,Ku_];grind))
theorem T4_ (s:List Pair) (hl:s.length<=1000000:=by first|omega|(simp;done)|(simp;omega)):Fn Tryz.prog gb 204 [.sl Pair.pc s] (.sl Pair.pc s):=by
  refine fC Tryz.func204 tv24 Tryz.ntmps204 fun w N H hG=>?_;refine gx tv24 9 ?_;refine ef (lnil tv24 rfl rfl rfl rfl rfl fun b1 hb2=>?_);refine gx tv24 2 ?_;refine cnd rfl (fun h3=>?_) (fun h3=>?_)
  · refine gx tv24 7 ?_;refine rt1 rfl rfl ?_;refine K3_ ?_;exact hb2 (by assumption)
  refine gx tv24 4 ?_;refine ef (bsl 0 Pair.pc [] tv24 rfl rfl rfl rfl rfl (fun _=>rfl) rfl (by decide) (by decide) rfl fun u4=>?_);refine gx tv24 1 ?_;refine ef (app tv24 s rfl rfl rfl rfl rfl rfl rfl rfl rfl (src_l rfl (fun _=>rfl)) (by first|omega|(simp;omega)) rfl fun u5=>?_);refine gx tv24 3 ?_;refine givec 0 rfl ?_;refine gx tv24 1 ?_;refine rt1 rfl rfl (ple ?_)
  simp
theorem T1_ (x:BindR) (hl:x.want.length<=1000000:=by first|omega|(simp;done)|decide):Fn Tryz.prog gb 155 [.agg (BindR.pc x)] (.agg (BindR.pc x)):=by
  refine fC Tryz.func155 tv24 Tryz.ntmps155 fun w N H hG=>?_;refine gm tv24 10 [0,1] fun B2=>?_;refine call (T4_ _) rfl rfl fun w4=>?_;refine gm tv24 11 [] fun _=>?_;refine rt1 rfl rfl (ple ?_)
  rfl
theorem idxF_Bind (s:List BindR) (f:FuncId) (f_fst f_cap:List PV) (f_p:BindR->Bool) (f_h:∀ x,Fn Tryz.prog gb f (argsP.apL f_fst ((.agg (BindR.pc x))::f_cap)) (.bool (f_p x))):Fn Tryz.prog gb 273 [.sl BindR.pc s, .fn f f_fst f_cap] (.int .i64 (idxP f_p s)):=by
  refine fC Tryz.func273 tv24 Tryz.ntmps273 fun w N H hG=>?_;have s_l:s.length<=140737488355328:=w.1.1;refine gx tv24 14 ?_;refine loop (ι:=Nat) [0,1,6,7] [] (fun k=>[(8, .int .i64 (k:Int))]) (fun k=>[]) (fun k=>k<=s.length/\idxP f_p s=idxF f_p k (s.drop k)) (fun k=>s.length-k) 0 ⟨rfl,trivial⟩ trivial ?_ ?_
  · exact⟨Nat.zero_le _,rfl⟩
  rintro k hp1;obtain⟨hk1,hk2⟩:=hp1;refine gx tv24 6 ?_;refine cnd rfl (fun h2=>?_) (fun h2=>?_)
  · have p3:=dt h2;obtain⟨c4,hc5⟩:=getE (xs:=s) (m:=k) (by omega);have c4_w:=BindR.pwf (w.1.2 c4 (List.mem_of_getElem? hc5));refine gx tv24 15 ?_;refine q1 (qidx tv24 k rfl rfl rfl hc5 rfl rfl rfl rfl) rfl fun w6=>?_;refine gx tv24 1 ?_;refine call (f_h c4) rfl rfl fun w7=>?_;refine gx tv24 2 ?_;refine cnd rfl (fun h8=>?_) (fun h8=>?_)
    · refine gx tv24 12 ?_;refine rt1 rfl rfl (ple ?_);exact congrArg (PV.int .i64) (L1_ hk2 (C4_ hc5) (by assumption)).symm
    refine gy tv24 7 ?_;refine next (k+1) rfl rfl ⟨rfl,trivial⟩ trivial ?_ ?_
    · omega
    exact⟨by omega,Jw_ hk2 (C4_ hc5) (by assumption)⟩
  have p9:=df h2;refine gx tv24 11 ?_;refine rt1 rfl rfl (ple ?_);exact congrArg (PV.int .i64) (L0_ hk2 (by omega)).symm
def tbv25:Tb:=[(9,ty9),(71,ty71),(169,ty169),(332,ty332)]
theorem tv25:tbB Tryz.prog tbv25=true:=by kernel_rfl
theorem l01_awake:Fn Tryz.prog gb 239 [] (.bool true):=by
  refine fC Tryz.func239 tv25 Tryz.ntmps239 fun w N H hG=>?_;refine gx tv25 8 ?_;refine call (out_Num (⟨[],0⟩:Out) _ _ (by ((try have :=hrl (by assumption));first|omega|(simp[C_,Cm_,Q_,numK]<;>omega)))) rfl rfl fun w1=>?_;have nl0:(⟨[],0⟩:Out).s.length=0:=rfl;have :=Ai_ (⟨[],0⟩:Out) 258 2;refine call (Dp_ _) rfl rfl fun w2=>?_;refine gx tv25 1 ?_;refine so_rt (t:=4) (p':= .bool true) (ple (congrArg PV.bool (show decide (((C_ (⟨[],0⟩:Out) 258 2).s)=[1,2])=true by decide +kernel))) rfl ?_;refine gx tv25 1 ?_;refine ungd rfl rfl ?_;refine gx tv25 1 ?_;refine ungd rfl rfl ?_;refine call (D9_ (⟨[],0⟩:Out) _) rfl rfl fun w3=>?_;have nl0:(⟨[],0⟩:Out).s.length=0:=rfl;have :=Ar_ (⟨[],0⟩:Out) [97,98];refine ungd rfl rfl ?_;refine call (Dp_ _) rfl rfl fun w4=>?_;refine ungd rfl rfl ?_;refine gx tv25 1 ?_;refine so_rt (t:=9) (p':= .bool true) (ple (congrArg PV.bool (show decide (((F_ (⟨[],0⟩:Out) [97,98]).s)=[0,2,97,98])=true by decide +kernel))) rfl ?_;refine gx tv25 2 ?_;refine ungd rfl rfl ?_;refine ef (ecallb 0 (octet_New _) rfl rfl fun w5 b6=>?_);refine ungd rfl rfl ?_;refine ef (ecallm (in_Num (⟨[1,2],0⟩) _) rfl rfl rfl rfl rfl fun w7 w7p=>?_);have :=inNum_r (⟨[1,2],0⟩) 2;refine ungd rfl rfl ?_;refine gx tv25 1 ?_;refine so_rt (t:=14) (p':= .bool true) (ple (congrArg PV.bool (show decide ((((Vp_ (⟨[1,2],0⟩) 2)).1)=258)=true by decide +kernel))) rfl ?_;refine gx tv25 5 ?_;refine rt1 rfl rfl (ple ?_);exact congrArg PV.bool (by first|rfl|decide +kernel)
theorem Sd_:Fn Tryz.prog gb 177 [] (.bool true):=by
  refine fC Tryz.func177 tv25 Tryz.ntmps177 fun w N H hG=>?_;refine gx tv25 7 ?_;refine call l01_awake rfl rfl fun w1=>?_;refine gx tv25 4 ?_;refine rt1 rfl rfl (ple ?_)
  rfl
theorem l04_awake:Fn Tryz.prog gb 314 [] (.bool true):=by
  refine fC Tryz.func314 tv25 Tryz.ntmps314 fun w N H hG=>?_;refine gx tv25 7 ?_;refine call (J3_ _ _) rfl rfl fun w1=>?_;refine so_rt (t:=1) (p':= .bool true) (ple (congrArg PV.bool (show mt (Bj_ [97,46,42,46,35]) (Bj_ [97,46,98])=true by decide +kernel))) rfl ?_;refine gx tv25 1 ?_;refine ungd rfl rfl ?_;refine call (J3_ _ _) rfl rfl fun w2=>?_;refine so_rt (t:=3) (p':= .bool true) (ple (congrArg PV.bool (show mt (Bj_ [97,46,42,46,35]) (Bj_ [97,46,98,46,99,46,100])=true by decide +kernel))) rfl ?_;refine gx tv25 2 ?_;refine ungd rfl rfl ?_;refine call (J3_ _ _) rfl rfl fun w3=>?_;refine so_rt (t:=6) (p':= .bool false) (ple (congrArg PV.bool (show mt (Bj_ [97,46,42,46,35]) (Bj_ [97])=false by decide +kernel))) rfl ?_;refine ungd rfl rfl ?_;refine gx tv25 1 ?_;refine so_rt (t:=7) (p':= .bool true) (ple (congrArg PV.bool (show !false=true by decide +kernel))) rfl ?_;refine gx tv25 2 ?_;refine ungd rfl rfl ?_;refine call (Dd_ _) rfl rfl fun w4=>?_;refine ungd rfl rfl ?_;refine gx tv25 1 ?_;refine so_rt (t:=11) (p':= .bool true) (ple (congrArg PV.bool (show decide ((Ee_ [97,45,49])=0)=true by decide +kernel))) rfl ?_;refine gx tv25 5 ?_;refine rt1 rfl rfl (ple ?_);exact congrArg PV.bool (by first|rfl|decide +kernel)
theorem Mk_:Fn Tryz.prog gb 281 [] (.bool true):=by
  refine fC Tryz.func281 tv25 Tryz.ntmps281 fun w N H hG=>?_;refine gx tv25 7 ?_;refine call l04_awake rfl rfl fun w1=>?_;refine gx tv25 4 ?_;refine rt1 rfl rfl (ple ?_)
  rfl
theorem l09_awake:Fn Tryz.prog gb 349 [] (.bool true):=by
  refine fC Tryz.func349 tv25 Tryz.ntmps349 fun w N H hG=>?_;refine gx tv25 7 ?_;refine call (Fn.le (Nc_ []) (A_ S_ Y_) (ple rfl) rfl) rfl rfl fun w1=>?_;have :=Gb_ [];refine gx tv25 9 ?_;refine call Sd_ rfl rfl fun w2=>?_;refine gx tv25 1 ?_;refine ungd rfl rfl ?_;refine call Mk_ rfl rfl fun w3=>?_;refine gx tv25 2 ?_;refine ungd rfl rfl ?_;refine gx tv25 1 ?_;refine ungd rfl rfl ?_;refine gx tv25 1 ?_;refine so_rt (t:=13) (p':= .bool true) (ple (congrArg PV.bool (show decide ((Fo_ [])=0)=true by decide +kernel))) rfl ?_;refine gx tv25 2 ?_;refine ungd rfl rfl ?_;refine gx tv25 1 ?_;refine ungd rfl rfl ?_;refine gx tv25 1 ?_;refine so_rt (t:=17) (p':= .bool true) (ple (congrArg PV.bool (show decide ((B8_ [])=[0])=true by decide +kernel))) rfl ?_;refine gx tv25 5 ?_;refine rt1 rfl rfl (ple ?_);exact congrArg PV.bool (by first|rfl|decide +kernel)
theorem Xg_:Fn Tryz.prog gb 339 [] (.bool true):=by
  refine fC Tryz.func339 tv25 Tryz.ntmps339 fun w N H hG=>?_;refine gx tv25 7 ?_;refine call l09_awake rfl rfl fun w1=>?_;refine gx tv25 4 ?_;refine rt1 rfl rfl (ple ?_)
  rfl
theorem l10_awake:Fn Tryz.prog gb 350 [] (.bool true):=by
  refine fC Tryz.func350 tv25 Tryz.ntmps350 fun w N H hG=>?_;refine gm tv25 14 [0] fun B2=>?_;refine call Mk_ rfl rfl fun w3=>?_;refine gx tv25 1 ?_;refine ungd rfl rfl ?_;refine call Xg_ rfl rfl fun w4=>?_;refine gx tv25 2 ?_;refine ungd rfl rfl ?_;refine gx tv25 1 ?_;refine ungd rfl rfl ?_;refine call (Uk_ (⟨2,[97,46,35],[],false⟩:Rule)) rfl rfl fun w5=>?_;refine ungd rfl rfl ?_;refine gx tv25 1 ?_;refine so_rt (t:=10) (p':= .bool true) (ple (congrArg PV.bool (show decide ((Ti_ (⟨2,[97,46,35],[],false⟩:Rule))=0)=true by decide +kernel))) rfl ?_;refine gx tv25 2 ?_;refine ungd rfl rfl ?_;refine gx tv25 1 ?_;refine ungd rfl rfl ?_;refine call (Fn.le (Tj_ (⟨2,[97,46,35],[],false⟩:Rule) _ []) (A_ (ple rfl) (A_ (ple rfl) (A_ S_ Y_))) (ple rfl) rfl) rfl rfl fun w6=>?_;refine so_rt (t:=14) (p':= .bool true) (ple (congrArg PV.bool (show Pu_ (⟨2,[97,46,35],[],false⟩:Rule) [97,46,98] []=true by decide +kernel))) rfl ?_;refine gx tv25 2 ?_;refine ungd rfl rfl ?_;refine gx tv25 1 ?_;refine ungd rfl rfl ?_;refine call (Fn.le (Tj_ (⟨2,[97,46,35],[],false⟩:Rule) _ []) (A_ (ple rfl) (A_ (ple rfl) (A_ S_ Y_))) (ple rfl) rfl) rfl rfl fun w7=>?_;refine so_rt (t:=18) (p':= .bool false) (ple (congrArg PV.bool (show Pu_ (⟨2,[97,46,35],[],false⟩:Rule) [98] []=false by decide +kernel))) rfl ?_;refine ungd rfl rfl ?_;refine gx tv25 1 ?_;refine so_rt (t:=19) (p':= .bool true) (ple (congrArg PV.bool (show !false=true by decide +kernel))) rfl ?_;refine gx tv25 5 ?_;refine rt1 rfl rfl (ple ?_);exact congrArg PV.bool (by first|rfl|decide +kernel)
theorem l10_Awake:Fn Tryz.prog gb 340 [] (.bool true):=by
  refine fC Tryz.func340 tv25 Tryz.ntmps340 fun w N H hG=>?_;refine gx tv25 7 ?_;refine call l10_awake rfl rfl fun w1=>?_;refine gx tv25 4 ?_;refine rt1 rfl rfl (ple ?_)
  rfl
theorem l13_awake:Fn Tryz.prog gb 318 [] (.bool true):=by
  refine fC Tryz.func318 tv25 Tryz.ntmps318 fun w N H hG=>?_;refine gx tv25 8 ?_;refine call (P6_ (⟨0,[97],[],[],[],0,0⟩:Mail)) rfl rfl fun w1=>?_;have :=Hf_ (⟨0,[97],[],[],[],0,0⟩:Mail);refine gx tv25 9 ?_;refine call Xg_ rfl rfl fun w2=>?_;refine gx tv25 1 ?_;refine ungd rfl rfl ?_;refine gx tv25 1 ?_;refine ungd rfl rfl ?_;refine gx tv25 1 ?_;refine so_rt (t:=11) (p':= .bool true) (ple (congrArg PV.bool (show decide ((E7_ (⟨0,[97],[],[],[],0,0⟩:Mail))=0)=true by decide +kernel))) rfl ?_;refine gx tv25 2 ?_;refine ungd rfl rfl ?_;refine gx tv25 1 ?_;refine ungd rfl rfl ?_;refine gx tv25 1 ?_;refine ungd rfl rfl ?_;refine gx tv25 1 ?_;refine so_rt (t:=16) (p':= .bool true) (ple (congrArg PV.bool (show decide (((Dy_ (⟨0,[97],[],[],[],0,0⟩:Mail)).length:Int)=25)=true by decide +kernel))) rfl ?_;refine gx tv25 5 ?_;refine rt1 rfl rfl (ple ?_);exact congrArg PV.bool (by first|rfl|decide +kernel)
theorem Sh_:Fn Tryz.prog gb 285 [] (.bool true):=by
  refine fC Tryz.func285 tv25 Tryz.ntmps285 fun w N H hG=>?_;refine gx tv25 7 ?_;refine call l13_awake rfl rfl fun w1=>?_;refine gx tv25 4 ?_;refine rt1 rfl rfl (ple ?_)
  rfl
theorem u8row {z:Int} (h:0<=z/\z<=255):((UInt8.ofNat z.toNat).toNat:Int)=z:=by
  rw[UInt8.toNat_ofNat']
  omega
def tbv27:Tb:=[(2,ty2),(3,ty3),(5,ty5),(9,ty9),(22,ty22),(67,ty67),(193,ty193),(268,ty268)]
theorem tv27:tbB Tryz.prog tbv27=true:=by kernel_rfl
theorem Nv_ (n:Int) (bytes:Int):Fn Tryz.prog gb 306 [.int .u64 n, .int .i64 bytes] (.str (numB (numK bytes) n.toNat)):=by
  refine fC Tryz.func306 tv27 Tryz.ntmps306 fun w N H hG=>?_;have n_r:0<=n/\n<=18446744073709551615:=w.1;have bytes_r:-9223372036854775808<=bytes/\bytes<=9223372036854775807:=w.2.1;refine gx tv27 12 ?_;refine cn rfl (fun p2=>?_) fun p6=>?_
  · refine gx tv27 11 ?_;refine cndF rfl (by decide) ?_;refine gx tv27 3 ?_;refine aN [0,1,2,3,4,5] 12 mixd ?_;refine gXy tv27 [0,1,2,3] 8 ?_;refine vC 4 rfl (Nv_ _ _) rfl fun w3=>?_;have :=Q_ (numK (8-1)) ((n/256)).toNat;have :=Lg_ (8-1);refine gXy tv27 [5,6] 5 ?_;refine vE 7 rfl (eqy (qconv tv27 rfl rfl rfl rfl (rg_u8 (by omega))) rfl fun w4=>?_);refine vE 8 rfl (bsl 0 u8c [UInt8.ofNat ((n%256)).toNat] tv27 rfl rfl rfl rfl (by first|(simp only[List.map_cons,List.map_nil,u8c];(repeat rw[u8row (by omega)]);done)|(simp only[List.map_cons,List.map_nil,u8c];(repeat rw[u8row (by omega)]);rfl)|(simp[u8c];omega)) (fun _=>rfl) rfl (by decide) (by decide) rfl fun u5=>?_)
    refine vE 9 rfl (sb2s tv27 rfl rfl rfl rfl rfl rfl rfl rfl rfl (by simp) rfl ?_);refine gov tv27 [10,11] 0 rfl (by kernel_rfl) rfl rfl ⟨(by first|omega|(simp only[List.length_append,List.length_cons,List.length_nil];omega)|(simp only[List.length_append,List.length_cons,List.length_nil,Q_];omega)),trivial⟩ ?_;refine vD ?_;refine gx tv27 2 ?_;refine rt1 rfl rfl (ple ?_)
    first
      |(rw[P9_ n_r.1 (by omega) (by omega)];done)
      |(rw[show numK bytes=numK 8 by unfold numK;omega,P9_ (b:=8) n_r.1 (by omega) (by omega)];done)
      |(rw[show numK bytes=0 by unfold numK;omega];rfl)
  refine gx tv27 9 ?_;refine cn rfl (fun p8=>?_) fun p9=>?_
  · refine gx tv27 7 ?_;refine rt1 rfl rfl (ple ?_)
    first
      |(rw[P9_ n_r.1 (by omega) (by omega)];done)
      |(rw[show numK bytes=numK 8 by unfold numK;omega,P9_ (b:=8) n_r.1 (by omega) (by omega)];done)
      |(rw[show numK bytes=0 by unfold numK;omega];rfl)
  refine gx tv27 3 ?_;refine aN [0,1,2,3,4,5] 12 mixd ?_;refine gXy tv27 [0,1,2,3] 8 ?_;refine vC 4 rfl (Nv_ _ _) rfl fun w10=>?_;have :=Q_ (numK (bytes-1)) ((n/256)).toNat;have :=Lg_ (bytes-1);refine gXy tv27 [5,6] 5 ?_;refine vE 7 rfl (eqy (qconv tv27 rfl rfl rfl rfl (rg_u8 (by omega))) rfl fun w11=>?_);refine vE 8 rfl (bsl 0 u8c [UInt8.ofNat ((n%256)).toNat] tv27 rfl rfl rfl rfl (by first|(simp only[List.map_cons,List.map_nil,u8c];(repeat rw[u8row (by omega)]);done)|(simp only[List.map_cons,List.map_nil,u8c];(repeat rw[u8row (by omega)]);rfl)|(simp[u8c];omega)) (fun _=>rfl) rfl (by decide) (by decide) rfl fun u12=>?_)
  refine vE 9 rfl (sb2s tv27 rfl rfl rfl rfl rfl rfl rfl rfl rfl (by simp) rfl ?_);refine gov tv27 [10,11] 0 rfl (by kernel_rfl) rfl rfl ⟨(by first|omega|(simp only[List.length_append,List.length_cons,List.length_nil];omega)|(simp only[List.length_append,List.length_cons,List.length_nil,Q_];omega)),trivial⟩ ?_;refine vD ?_;refine gx tv27 2 ?_;refine rt1 rfl rfl (ple ?_)
  first
    |(rw[P9_ n_r.1 (by omega) (by omega)];done)
    |(rw[show numK bytes=numK 8 by unfold numK;omega,P9_ (b:=8) n_r.1 (by omega) (by omega)];done)
    |(rw[show numK bytes=0 by unfold numK;omega];rfl)
termination_by numK bytes
decreasing_by all_goals (unfold numK;omega)
theorem Te_ (s:Bs) (hs:s.length<=4611686018427387904:=by first|omega|(simp;done)|(simp;omega)):Fn Tryz.prog gb 307 [.str s] (.str (txtB s)):=by
  refine fC Tryz.func307 tv27 Tryz.ntmps307 fun w N H hG=>?_;have s_l:s.length<=9223372036854775807:=w.1;refine gx tv27 9 ?_;refine q1 (qconv tv27 rfl rfl rfl rfl (Tg_ (by omega))) rfl fun w1=>?_;refine call (Nv_ _ _) rfl rfl fun w2=>?_;have :=Q_ (numK 2) ((s.length:Int)).toNat;have :=Lg_ 2;have :numK 2=2:=by decide
  refine go tv27 6 rfl rfl ⟨(by first|omega|(simp only[List.length_append,List.length_cons,List.length_nil];omega)|(simp only[List.length_append,List.length_cons,List.length_nil,Q_];omega)),trivial⟩ ?_;refine rt1 rfl rfl (ple ?_)
  unfold txtB
  rw[show numK 2=2 by decide,Int.toNat_natCast]
theorem r9_Bytes (h:List Pair) (hs:Uo_ h:=by first|assumption|exact Pg_ (by assumption)|exact M3_ (by assumption)|exact Ph_ (by first|assumption|omega)):Fn Tryz.prog gb 308 [.sl Pair.pc h] (.str (r9B h)):=by
  refine fC Tryz.func308 tv27 Tryz.ntmps308 fun w N H hG=>?_;have h_l:h.length<=140737488355328:=w.1.1;have hs1:=hs.1;refine gx tv27 9 ?_;refine q1 (qconv tv27 rfl rfl rfl rfl (Tg_ (by omega))) rfl fun w1=>?_;refine call (Nv_ _ _) rfl rfl fun w2=>?_;have :=Q_ (numK 1) ((h.length:Int)).toNat;have :=Lg_ 1;have :numK 1=1:=by decide
  refine gx tv27 12 ?_;refine loop (ι:=Nat×Bs) [0,2,6,7,8,9,10,11] [] (fun ⟨k,acc⟩=>[(3, .str acc),(12, .int .i64 (k:Int))]) (fun ⟨k,acc⟩=>[]) (fun ⟨k,acc⟩=>k<=h.length/\r9B h=acc++(h.drop k).flatMap N4_/\acc.length<=1+2100*k) (fun ⟨k,acc⟩=>h.length-k) ⟨0,(numB (numK 1) (h.length:Int).toNat)⟩ ⟨rfl,rfl,trivial⟩ trivial ?_ ?_
  · exact⟨Nat.zero_le _,by unfold r9B;rw[show numK 1=1 by decide,Int.toNat_natCast];simp,by omega⟩
  rintro⟨k,acc⟩ hp3;obtain⟨hk1,hk2,hk3⟩:=hp3;refine gx tv27 6 ?_;refine cn rfl (fun p5=>?_) fun p22=>?_
  · obtain⟨c6,hc7⟩:=getE (xs:=h) (m:=k) (by omega);have hsm0:=hs.2 c6 (List.mem_of_getElem? hc7);have c6_w:=Pair.pwf (w.1.2 c6 (List.mem_of_getElem? hc7));refine gx tv27 6 ?_;refine q1 (qidx tv27 k rfl rfl rfl hc7 rfl rfl rfl rfl) rfl fun w8=>?_;refine gm tv27 6 [0] fun B10=>?_;refine aN [1,2,3,4,5,6] 11 mixd ?_;refine gX tv27 [0,1,2] 8 ?_;refine vC 3 rfl (Te_ _) rfl fun w11=>?_;have :=L6_ c6.key;refine gov tv27 [4,5,6,7] 3 rfl (by kernel_rfl) rfl rfl ⟨(by first|omega|(simp only[List.length_append,List.length_cons,List.length_nil];omega)|(simp only[List.length_append,List.length_cons,List.length_nil,Q_];omega)),trivial⟩ ?_;refine vC 8 rfl (Nv_ _ _) rfl fun w12=>?_;have :=Q_ (numK 1) (c6.kind).toNat;have :=Lg_ 1;have :numK 1=1:=by decide
    refine gov tv27 [9,10] 0 rfl (by kernel_rfl) rfl rfl ⟨(by first|omega|(simp only[List.length_append,List.length_cons,List.length_nil];omega)|(simp only[List.length_append,List.length_cons,List.length_nil,Q_];omega)),trivial⟩ ?_;refine vD ?_;refine gx tv27 8 ?_;refine cn rfl (fun p14=>?_) fun p16=>?_
    · refine gx tv27 5 ?_;refine call (Nv_ _ _) rfl rfl fun w15=>?_;have :=Q_ (numK 8) ((IntKind.wrap .u64 c6.num)).toNat;have :=Lg_ 8;have :numK 8=8:=by decide
      refine go tv27 9 rfl rfl ⟨(by first|omega|(simp only[List.length_append,List.length_cons,List.length_nil];omega)|(simp only[List.length_append,List.length_cons,List.length_nil,Q_];omega)),(by omega),trivial⟩ ?_;refine next ⟨(k+1),(((acc++(txtB c6.key))++(numB (numK 1) c6.kind.toNat))++(numB (numK 8) (IntKind.wrap .u64 c6.num).toNat))⟩ rfl rfl ⟨rfl,rfl,trivial⟩ trivial ?_ ?_
      · (try simp only[]);omega
      have hsm:=hs.2 c6 (List.mem_of_getElem? hc7);have hpl:=O8_ hsm;have e:(((acc++(txtB c6.key))++(numB (numK 1) c6.kind.toNat))++(numB (numK 8) (IntKind.wrap .u64 c6.num).toNat))=acc++N4_ c6:=by
        unfold N4_
        have k1:numK 1=1:=by decide
        have k8:numK 8=8:=by decide
        rw[k1]
        first|(rw[if_pos (by omega),k8];simp;done)|(rw[if_neg (by omega),if_pos (by omega)];simp;done)|(rw[if_neg (by omega),if_neg (by omega)];simp;done)
      simp only[]
      rw[e]
      refine⟨by omega,?_,by rw[List.length_append];omega⟩
      rw[hk2,C4_ hc7,List.flatMap_cons,List.append_assoc]
    refine gx tv27 7 ?_;refine cn rfl (fun p18=>?_) fun p20=>?_
    · refine gx tv27 4 ?_;refine call (Te_ _) rfl rfl fun w19=>?_;have :=L6_ c6.text;refine go tv27 9 rfl rfl ⟨(by first|omega|(simp only[List.length_append,List.length_cons,List.length_nil];omega)|(simp only[List.length_append,List.length_cons,List.length_nil,Q_];omega)),(by omega),trivial⟩ ?_;refine next ⟨(k+1),(((acc++(txtB c6.key))++(numB (numK 1) c6.kind.toNat))++(txtB c6.text))⟩ rfl rfl ⟨rfl,rfl,trivial⟩ trivial ?_ ?_
      · (try simp only[]);omega
      have hsm:=hs.2 c6 (List.mem_of_getElem? hc7);have hpl:=O8_ hsm;have e:(((acc++(txtB c6.key))++(numB (numK 1) c6.kind.toNat))++(txtB c6.text))=acc++N4_ c6:=by
        unfold N4_
        have k1:numK 1=1:=by decide
        have k8:numK 8=8:=by decide
        rw[k1]
        first|(rw[if_pos (by omega),k8];simp;done)|(rw[if_neg (by omega),if_pos (by omega)];simp;done)|(rw[if_neg (by omega),if_neg (by omega)];simp;done)
      simp only[]
      rw[e]
      refine⟨by omega,?_,by rw[List.length_append];omega⟩
      rw[hk2,C4_ hc7,List.flatMap_cons,List.append_assoc]
    refine gx tv27 5 ?_;refine call (Nv_ _ _) rfl rfl fun w21=>?_;have :=Q_ (numK 1) ((IntKind.wrap .u64 c6.num)).toNat;have :=Lg_ 1;have :numK 1=1:=by decide
    refine go tv27 9 rfl rfl ⟨(by first|omega|(simp only[List.length_append,List.length_cons,List.length_nil];omega)|(simp only[List.length_append,List.length_cons,List.length_nil,Q_];omega)),(by omega),trivial⟩ ?_;refine next ⟨(k+1),(((acc++(txtB c6.key))++(numB (numK 1) c6.kind.toNat))++(numB (numK 1) (IntKind.wrap .u64 c6.num).toNat))⟩ rfl rfl ⟨rfl,rfl,trivial⟩ trivial ?_ ?_
    · (try simp only[]);omega
    have hsm:=hs.2 c6 (List.mem_of_getElem? hc7);have hpl:=O8_ hsm;have e:(((acc++(txtB c6.key))++(numB (numK 1) c6.kind.toNat))++(numB (numK 1) (IntKind.wrap .u64 c6.num).toNat))=acc++N4_ c6:=by
      unfold N4_
      have k1:numK 1=1:=by decide
      have k8:numK 8=8:=by decide
      rw[k1]
      first|(rw[if_pos (by omega),k8];simp;done)|(rw[if_neg (by omega),if_pos (by omega)];simp;done)|(rw[if_neg (by omega),if_neg (by omega)];simp;done)
    simp only[]
    rw[e]
    refine⟨by omega,?_,by rw[List.length_append];omega⟩
    rw[hk2,C4_ hc7,List.flatMap_cons,List.append_assoc]
  refine gx tv27 12 ?_;refine rt1 rfl rfl (ple ?_)
  rw[hk2,List.drop_of_length_le (by omega)]
  simp
def tbv28:Tb:=[(5,ty5),(9,ty9),(22,ty22),(67,ty67),(71,ty71)]
theorem tv28:tbB Tryz.prog tbv28=true:=by kernel_rfl
theorem r13_Bytes (m:Mail) (hE:E7_ m=0:=by first|assumption|omega):Fn Tryz.prog gb 277 [.agg (Mail.pc m)] (.str (V4_ m)):=by
  refine fC Tryz.func277 tv28 Tryz.ntmps277 fun w N H hG=>?_;have m_w:=Mail.pwf w.1;have m_w':=m_w
  simp only[Mail.wf] at m_w'
  have m_head_k:=Mail.kd3 w.1;have m_head_k2:m.head.length<=140737488355328:=w.1.2.2.2.1.1;obtain⟨mk1,mk2,mk3,mk4,mk5⟩:=G1_ hE;have hsx:=Ph_ mk3;have hrl:=r9B_le mk3 m_head_k;refine gm tv28 7 [0] fun B2=>?_;refine aN [1,2,3,4,5,6] 29 mixd ?_;refine gX tv28 [0,1] 27 ?_;refine vC 2 rfl (Nv_ _ _) rfl fun w3=>?_;have :=Q_ (numK 8) (m.id).toNat;have :=Lg_ 8;have :numK 8=8:=by decide
  refine gX tv28 [3,4] 24 ?_;refine vC 5 rfl (Te_ _) rfl fun w4=>?_;have :=L6_ m.shop;refine gov tv28 [6,7,8] 20 rfl (by kernel_rfl) rfl rfl ⟨(by first|omega|(simp only[List.length_append,List.length_cons,List.length_nil];omega)|(simp only[List.length_append,List.length_cons,List.length_nil,Q_];omega)),trivial⟩ ?_;refine vC 9 rfl (Te_ _) rfl fun w5=>?_;have :=L6_ m.key;refine gov tv28 [10,11,12] 16 rfl (by kernel_rfl) rfl rfl ⟨(by first|omega|(simp only[List.length_append,List.length_cons,List.length_nil];omega)|(simp only[List.length_append,List.length_cons,List.length_nil,Q_];omega)),trivial⟩ ?_;refine vC 13 rfl (r9_Bytes _) rfl fun w6=>?_;have hsmx6:Uo_ m.head:=by first|assumption|exact Pg_ (by assumption)|exact M3_ (by assumption)|exact Ph_ (by first|assumption|omega)
  have :=r9B_len hsmx6;have :=hsmx6.1;refine gov tv28 [14,15,16] 12 rfl (by kernel_rfl) rfl rfl ⟨(by first|omega|(simp only[List.length_append,List.length_cons,List.length_nil];omega)|(simp only[List.length_append,List.length_cons,List.length_nil,Q_];omega)),trivial⟩ ?_;refine vC 17 rfl (Te_ _) rfl fun w7=>?_;have :=L6_ m.body;refine gov tv28 [18,19,20] 8 rfl (by kernel_rfl) rfl rfl ⟨(by first|omega|(simp only[List.length_append,List.length_cons,List.length_nil];omega)|(simp only[List.length_append,List.length_cons,List.length_nil,Q_];omega)),trivial⟩ ?_;refine vC 21 rfl (Nv_ _ _) rfl fun w8=>?_;have :=Q_ (numK 8) (m.due).toNat;have :=Lg_ 8;have :numK 8=8:=by decide
  refine gov tv28 [22,23,24,25] 3 rfl (by kernel_rfl) rfl rfl ⟨(by first|omega|(simp only[List.length_append,List.length_cons,List.length_nil];omega)|(simp only[List.length_append,List.length_cons,List.length_nil,Q_];omega)),trivial⟩ ?_;refine vC 26 rfl (Nv_ _ _) rfl fun w9=>?_;have :=Q_ (numK 1) (m.hops).toNat;have :=Lg_ 1;have :numK 1=1:=by decide
  refine gov tv28 [27,28] 0 rfl (by kernel_rfl) rfl rfl ⟨(by first|omega|(simp only[List.length_append,List.length_cons,List.length_nil];omega)|(simp only[List.length_append,List.length_cons,List.length_nil,Q_];omega)),trivial⟩ ?_;refine vD ?_;refine gx tv28 2 ?_;refine rt1 rfl rfl (ple ?_);have k1:numK 1=1:=by decide
  have k8:numK 8=8:=by decide
  simp only[k1,k8,List.append_assoc]
  try rfl
theorem cb272:U_ Tryz.prog 272:=P_ Tryz.func272 (by kernel_rfl) (by kernel_rfl)
theorem cb274:U_ Tryz.prog 274:=P_ Tryz.func274 (by kernel_rfl) (by kernel_rfl)
abbrev ty374:TI:=⟨.slc 40,1,24,[.sl (slc ShopR.pc) []]⟩
abbrev ty377:TI:=⟨.slc 41,1,24,[.sl (slc BindR.pc) []]⟩
def tbv40:Tb:=[(3,ty3),(40,ty40),(41,ty41),(64,ty64),(69,ty69),(374,ty374),(377,ty377)]
theorem tv40:tbB Tryz.prog tbv40=true:=by kernel_rfl
theorem grow_Shop (n:Int) (hn:0<=n/\n<=100000000:=by omega):Fo Tryz.prog gb 272 [.val (.slice none 0 0), .int .i64 n] (fun u=> .val u) 3 64 ShopR.pc ([]:List ShopR):=by
  refine Vg_ tv40 Tryz.func272 rfl Tryz.ntmps272 rfl cb272 (fun _=>rfl) rfl fun w N H hG=>?_;refine gx tv40 12 ?_;refine cnd rfl (fun h1=>?_) (fun h1=>?_)
  · have p2:=dt h1
    exfalso;omega
  have p3:=df h1;refine gx tv40 7 ?_;refine q1 (qcap0 tv40 rfl rfl rfl) rfl fun w4=>?_;refine gx tv40 1 ?_;refine q1 (qlen0 tv40 rfl rfl rfl) rfl fun w5=>?_;refine gy tv40 11 ?_;refine cn rfl (fun p7=>?_) fun p13=>?_
  · refine gx tv40 3 ?_;refine q1 (qcap0 tv40 rfl rfl rfl) rfl fun w8=>?_;refine q1 (qcut0 tv40 rfl rfl rfl rfl rfl (by omega)) rfl fun w9=>?_;refine gx tv40 1 ?_;refine ef (appz (m:=((n-(0-0))).toNat) 0 tv40 rfl rfl rfl rfl rfl rfl rfl rfl rfl rfl (by omega) (by omega) (by (try simp only[]);omega) rfl rfl fun u10=>?_);refine gx tv40 1 ?_;refine q1 (qlen0 tv40 rfl rfl rfl) rfl fun w11=>?_;refine ef (ocut ShopR.pc tv40 rfl rfl rfl rfl rfl rfl (by omega) rfl fun u12=>?_);refine gx tv40 9 ?_;refine sw_val (t:=4) (i:=0) rfl rfl ?_;refine gx tv40 1 ?_;refine ro1 (j:=0) rfl rfl rfl ?_
    rfl
  refine gx tv40 8 ?_;refine sw_own (t:=4) (k:=3) (e:=64) 0 ShopR.pc rfl rfl ?_;refine sw_val (t:=4) (i:=0) rfl rfl ?_;refine gx tv40 1 ?_;refine ro1 (j:=0) rfl rfl rfl ?_
  rfl
theorem Rp_ (ls:List (List ShopR)) (hl:ls.flatten.length<=100000000:=by first|omega|(simp;done)|(simp;omega)|(simp only[List.flatten_cons,List.flatten_nil,List.length_append,List.append_nil];simp;omega)):Fn Tryz.prog gb 219 [.sl (slc ShopR.pc) ls] (.sl ShopR.pc ls.flatten):=by
  refine fC Tryz.func219 tv40 Tryz.ntmps219 fun w N H hG=>?_;have ls_l:ls.length<=140737488355328:=w.1.1;refine gx tv40 19 ?_;refine loop (ι:=Nat×Int) [0,2,9,10] [] (fun ⟨k,n⟩=>[(3, .int .i64 n),(11, .int .i64 (k:Int))]) (fun ⟨k,n⟩=>[]) (fun ⟨k,n⟩=>k<=ls.length/\n=((ls.take k).flatten.length:Int)) (fun ⟨k,n⟩=>ls.length-k) ⟨0,0⟩ ⟨rfl,rfl,trivial⟩ trivial ?_ ?_
  · exact⟨Nat.zero_le _,by simp⟩
  rintro⟨k,n⟩ hp1;obtain⟨hk1,hk2⟩:=hp1;have hg0:=Co_ ls k;refine gx tv40 6 ?_;refine cn rfl (fun p3=>?_) fun p10=>?_
  · obtain⟨c4,hc5⟩:=getE (xs:=ls) (m:=k) (by omega);refine gx tv40 6 ?_;refine q1 (qidx tv40 k rfl rfl rfl hc5 rfl rfl rfl rfl) rfl fun w6=>?_;refine go tv40 19 rfl rfl ⟨(by have hg:=Co_ ls (k+1);have hfl:=congrArg List.length (Ao_ (by assumption :ls[k]? = some _));simp only[List.length_append] at hfl;omega),trivial⟩ ?_;refine cnd rfl (fun h7=>?_) (fun h7=>?_)
    · have p8:=dt h7
      exfalso;omega
    have p9:=df h7;refine go tv40 7 rfl rfl ⟨(by have hg:=Co_ ls (k+1);have hfl:=congrArg List.length (Ao_ (by assumption :ls[k]? = some _));simp only[List.length_append] at hfl;omega),trivial⟩ ?_;refine next ⟨(k+1),(n+(c4.length:Int))⟩ rfl rfl ⟨rfl,rfl,trivial⟩ trivial ?_ ?_
    · (try simp only[]);omega
    have hf:=Ao_ hc5;have hg:=Co_ ls (k+1);have hfl:=congrArg List.length hf
    simp only[List.length_append] at hfl
    exact⟨by omega,by (try simp only[]);omega⟩
  refine gx tv40 8 ?_;refine ef (ecallo 0 (grow_Shop _) rfl rfl fun u12 w11=>?_);refine gx tv40 12 ?_;refine sw_osl (t:=6) 0 rfl rfl ?_;refine loop (ι:=Nat×(List ShopR)×Value) [0,2,3,9,10,11,12,23,24,25,26] [] (fun ⟨k,out,u_out⟩=>[(6, .osl 0),(27, .int .i64 (k:Int))]) (fun ⟨k,out,u_out⟩=>[(0, .arr u_out 3 64 ShopR.pc out)]) (fun ⟨k,out,u_out⟩=>k<=ls.length/\out=(ls.take k).flatten) (fun ⟨k,out,u_out⟩=>ls.length-k) ⟨0,([]:List ShopR),(u12)⟩ ⟨rfl,rfl,trivial⟩ ⟨rfl,trivial⟩ ?_ ?_
  · exact⟨Nat.zero_le _,by simp⟩
  rintro⟨k,out,u_out⟩ hp13;obtain⟨hk1,hk2⟩:=hp13;refine gx tv40 6 ?_;refine cn rfl (fun p15=>?_) fun p20=>?_
  · obtain⟨c16,hc17⟩:=getE (xs:=ls) (m:=k) (by omega);refine gx tv40 6 ?_;refine q1 (qidx tv40 k rfl rfl rfl hc17 rfl rfl rfl rfl) rfl fun w18=>?_;refine gx tv40 7 ?_;refine ef (app tv40 c16 rfl rfl rfl rfl rfl rfl rfl rfl rfl (src_l rfl (fun _=>rfl)) (by have hg:=Co_ ls (k+1);have hfl:=congrArg List.length (Ao_ (by assumption :ls[k]? = some _));simp only[List.length_append] at hfl;subst hk2;(try simp only[]);omega) rfl fun u19=>?_);refine go tv40 8 rfl rfl ⟨(by have hg:=Co_ ls (k+1);have hfl:=congrArg List.length (Ao_ (by assumption :ls[k]? = some _));simp only[List.length_append] at hfl;omega),trivial⟩ ?_;refine next ⟨(k+1),(out++c16),(u19)⟩ rfl rfl ⟨rfl,rfl,trivial⟩ ⟨rfl,trivial⟩ ?_ ?_
    · (try simp only[]);omega
    exact⟨by omega,by (try simp only[]);rw[Ao_ hc17,hk2]⟩
  refine gx tv40 11 ?_;refine givec 0 rfl ?_;refine gx tv40 1 ?_;refine rt1 rfl rfl (ple ?_)
  rw[hk2,Lj_ (by omega)]
theorem grow_Bind (n:Int) (hn:0<=n/\n<=100000000:=by omega):Fo Tryz.prog gb 274 [.val (.slice none 0 0), .int .i64 n] (fun u=> .val u) 6 69 BindR.pc ([]:List BindR):=by
  refine Vg_ tv40 Tryz.func274 rfl Tryz.ntmps274 rfl cb274 (fun _=>rfl) rfl fun w N H hG=>?_;refine gx tv40 12 ?_;refine cnd rfl (fun h1=>?_) (fun h1=>?_)
  · have p2:=dt h1
    exfalso;omega
  have p3:=df h1;refine gx tv40 7 ?_;refine q1 (qcap0 tv40 rfl rfl rfl) rfl fun w4=>?_;refine gx tv40 1 ?_;refine q1 (qlen0 tv40 rfl rfl rfl) rfl fun w5=>?_;refine gy tv40 11 ?_;refine cn rfl (fun p7=>?_) fun p13=>?_
  · refine gx tv40 3 ?_;refine q1 (qcap0 tv40 rfl rfl rfl) rfl fun w8=>?_;refine q1 (qcut0 tv40 rfl rfl rfl rfl rfl (by omega)) rfl fun w9=>?_;refine gx tv40 1 ?_;refine ef (appz (m:=((n-(0-0))).toNat) 0 tv40 rfl rfl rfl rfl rfl rfl rfl rfl rfl rfl (by omega) (by omega) (by (try simp only[]);omega) rfl rfl fun u10=>?_);refine gx tv40 1 ?_;refine q1 (qlen0 tv40 rfl rfl rfl) rfl fun w11=>?_;refine ef (ocut BindR.pc tv40 rfl rfl rfl rfl rfl rfl (by omega) rfl fun u12=>?_);refine gx tv40 9 ?_;refine sw_val (t:=4) (i:=0) rfl rfl ?_;refine gx tv40 1 ?_;refine ro1 (j:=0) rfl rfl rfl ?_
    rfl
  refine gx tv40 8 ?_;refine sw_own (t:=4) (k:=6) (e:=69) 0 BindR.pc rfl rfl ?_;refine sw_val (t:=4) (i:=0) rfl rfl ?_;refine gx tv40 1 ?_;refine ro1 (j:=0) rfl rfl rfl ?_
  rfl
theorem Rn_ (ls:List (List BindR)) (hl:ls.flatten.length<=100000000:=by first|omega|(simp;done)|(simp;omega)|(simp only[List.flatten_cons,List.flatten_nil,List.length_append,List.append_nil];simp;omega)):Fn Tryz.prog gb 224 [.sl (slc BindR.pc) ls] (.sl BindR.pc ls.flatten):=by
  refine fC Tryz.func224 tv40 Tryz.ntmps224 fun w N H hG=>?_;have ls_l:ls.length<=140737488355328:=w.1.1;refine gx tv40 19 ?_;refine loop (ι:=Nat×Int) [0,2,9,10] [] (fun ⟨k,n⟩=>[(3, .int .i64 n),(11, .int .i64 (k:Int))]) (fun ⟨k,n⟩=>[]) (fun ⟨k,n⟩=>k<=ls.length/\n=((ls.take k).flatten.length:Int)) (fun ⟨k,n⟩=>ls.length-k) ⟨0,0⟩ ⟨rfl,rfl,trivial⟩ trivial ?_ ?_
  · exact⟨Nat.zero_le _,by simp⟩
  rintro⟨k,n⟩ hp1;obtain⟨hk1,hk2⟩:=hp1;have hg0:=Co_ ls k;refine gx tv40 6 ?_;refine cn rfl (fun p3=>?_) fun p10=>?_
  · obtain⟨c4,hc5⟩:=getE (xs:=ls) (m:=k) (by omega);refine gx tv40 6 ?_;refine q1 (qidx tv40 k rfl rfl rfl hc5 rfl rfl rfl rfl) rfl fun w6=>?_;refine go tv40 19 rfl rfl ⟨(by have hg:=Co_ ls (k+1);have hfl:=congrArg List.length (Ao_ (by assumption :ls[k]? = some _));simp only[List.length_append] at hfl;omega),trivial⟩ ?_;refine cnd rfl (fun h7=>?_) (fun h7=>?_)
    · have p8:=dt h7
      exfalso;omega
    have p9:=df h7;refine go tv40 7 rfl rfl ⟨(by have hg:=Co_ ls (k+1);have hfl:=congrArg List.length (Ao_ (by assumption :ls[k]? = some _));simp only[List.length_append] at hfl;omega),trivial⟩ ?_;refine next ⟨(k+1),(n+(c4.length:Int))⟩ rfl rfl ⟨rfl,rfl,trivial⟩ trivial ?_ ?_
    · (try simp only[]);omega
    have hf:=Ao_ hc5;have hg:=Co_ ls (k+1);have hfl:=congrArg List.length hf
    simp only[List.length_append] at hfl
    exact⟨by omega,by (try simp only[]);omega⟩
  refine gx tv40 8 ?_;refine ef (ecallo 0 (grow_Bind _) rfl rfl fun u12 w11=>?_);refine gx tv40 12 ?_;refine sw_osl (t:=6) 0 rfl rfl ?_;refine loop (ι:=Nat×(List BindR)×Value) [0,2,3,9,10,11,12,23,24,25,26] [] (fun ⟨k,out,u_out⟩=>[(6, .osl 0),(27, .int .i64 (k:Int))]) (fun ⟨k,out,u_out⟩=>[(0, .arr u_out 6 69 BindR.pc out)]) (fun ⟨k,out,u_out⟩=>k<=ls.length/\out=(ls.take k).flatten) (fun ⟨k,out,u_out⟩=>ls.length-k) ⟨0,([]:List BindR),(u12)⟩ ⟨rfl,rfl,trivial⟩ ⟨rfl,trivial⟩ ?_ ?_
  · exact⟨Nat.zero_le _,by simp⟩
  rintro⟨k,out,u_out⟩ hp13;obtain⟨hk1,hk2⟩:=hp13;refine gx tv40 6 ?_;refine cn rfl (fun p15=>?_) fun p20=>?_
  · obtain⟨c16,hc17⟩:=getE (xs:=ls) (m:=k) (by omega);refine gx tv40 6 ?_;refine q1 (qidx tv40 k rfl rfl rfl hc17 rfl rfl rfl rfl) rfl fun w18=>?_;refine gx tv40 7 ?_;refine ef (app tv40 c16 rfl rfl rfl rfl rfl rfl rfl rfl rfl (src_l rfl (fun _=>rfl)) (by have hg:=Co_ ls (k+1);have hfl:=congrArg List.length (Ao_ (by assumption :ls[k]? = some _));simp only[List.length_append] at hfl;subst hk2;(try simp only[]);omega) rfl fun u19=>?_);refine go tv40 8 rfl rfl ⟨(by have hg:=Co_ ls (k+1);have hfl:=congrArg List.length (Ao_ (by assumption :ls[k]? = some _));simp only[List.length_append] at hfl;omega),trivial⟩ ?_;refine next ⟨(k+1),(out++c16),(u19)⟩ rfl rfl ⟨rfl,rfl,trivial⟩ ⟨rfl,trivial⟩ ?_ ?_
    · (try simp only[]);omega
    exact⟨by omega,by (try simp only[]);rw[Ao_ hc17,hk2]⟩
  refine gx tv40 11 ?_;refine givec 0 rfl ?_;refine gx tv40 1 ?_;refine rt1 rfl rfl (ple ?_)
  rw[hk2,Lj_ (by omega)]
theorem cb257:U_ Tryz.prog 257:=P_ Tryz.func257 (by kernel_rfl) (by kernel_rfl)
def tbv45:Tb:=[(9,ty9),(40,ty40),(41,ty41),(43,ty43),(64,ty64),(69,ty69),(106,Ns_),(374,ty374)]
theorem tv45:tbB Tryz.prog tbv45=true:=by kernel_rfl
theorem Qs_ (l:List Bs) (s:Bs) (hl:l.length<=100000:=by first|omega|(simp;omega)|decide +kernel):Fl Tryz.prog gb 257 [.str s] (fun u=> .val u) 1 9 strc l (Gs_ l s):=by
  refine fl_cw tv45 Tryz.func257 rfl Tryz.ntmps257 rfl cb257 (fun _=>rfl) rfl fun w l_l u0 N H hG=>?_;have e0:=Gs_.eq_1 l s;refine gx tv45 10 ?_;refine ef (calll 0 rfl (Wo_ _ _) rfl rfl rfl fun w1=>?_);refine gx tv45 2 ?_;refine cD e0 (fun p3 e4=>?_) (fun p5 e6=>?_)
  · refine gx tv45 6 ?_;refine sw_val (t:=4) (i:=0) rfl rfl ?_;refine gx tv45 2 ?_;refine ro1 (j:=0) rfl rfl rfl ?_;exact (congrArg (fun r:(List Bs)=>r) e4).symm
  refine gx tv45 6 ?_;refine ef (bsl 1 strc [s] tv45 rfl rfl rfl rfl rfl (fun _=>rfl) rfl (by decide) (by decide) rfl fun u7=>?_);refine ef (app tv45 [s] rfl rfl rfl rfl rfl rfl rfl rfl rfl (src_o rfl rfl) (by first|omega|(simp;omega)) rfl fun u8=>?_);refine gx tv45 3 ?_;refine sw_val (t:=4) (i:=0) rfl rfl ?_;refine gx tv45 1 ?_;refine ro1 (j:=0) rfl rfl rfl ?_;exact (congrArg (fun r:(List Bs)=>r) e6).symm
theorem Lb_ (b:BookR) (x:ShopR) (hs:b.shops.length<=1000:=by first|omega|(simp;omega)|decide +kernel):Fn Tryz.prog gb 131 [.agg (BookR.pc b), .agg (ShopR.pc x)] (.tup [.agg (BookR.pc ((B0_ b x).1)), .int .i64 ((B0_ b x).2)]):=by
  refine fC Tryz.func131 tv45 Tryz.ntmps131 fun w N H hG=>?_;have e0:=B0_.eq_1 b x;generalize B0_ b x=z at e0 ⊢;refine gm tv45 12 [0,1,2] fun B2=>?_;refine call (shop_check _) rfl rfl fun w5=>?_;have :=shopE_r x;refine gx tv45 9 ?_;refine cN e0 (fun p8 e9=>?_) (fun p12 e13=>?_)
  · refine gm tv45 10 [] fun _=>?_;subst e9;exact qr2
  refine gx tv45 7 ?_;refine call (Om_ _ _) rfl rfl fun w14=>?_;refine gm tv45 16 [3] fun B16=>?_;refine q1g [25,26] rfl (fun hc=>saeq rfl rfl eqg64 (veq64 x ((F2_ b.shops x.name).getD ShopR.zero))) ⟨(fun hc=>hc),(fun hc=>hc),trivial⟩ rfl rfl rfl fun _=>?_;refine gy tv45 4 ?_;refine cE e13 (fun h17 e21=>?_) (fun h17 e23=>?_)
  · have h18:=bl h17;have h19:=br h17;have p20:=dt h19;refine gm tv45 10 [] fun _=>?_;subst e21;exact qr2
  refine gx tv45 6 ?_;refine cE e23 (fun h24 e25=>?_) (fun h24 e27=>?_)
  · refine gm tv45 10 [] fun _=>?_;subst e25;exact qr2
  refine gx tv45 9 ?_;refine cD e27 (fun p29 e30=>?_) (fun p32 e33=>?_)
  · refine gm tv45 10 [] fun _=>?_;subst e30;exact qr2
  refine gx tv45 8 ?_;refine ef (bsl 4 ShopR.pc [x] tv45 rfl rfl rfl rfl rfl (fun _=>rfl) rfl (by decide) (by decide) rfl fun u34=>?_);refine give 4 rfl ?_;refine ef (bsl 4 (slc ShopR.pc) [b.shops,[x]] tv45 rfl rfl rfl rfl rfl (fun _=>rfl) rfl (by decide) (by decide) rfl fun u35=>?_);refine give 4 rfl ?_;refine call (Rp_ _) rfl rfl fun w36=>?_;have hfl36:([b.shops,[x]].flatten).length=b.shops.length+1:=by simp only[List.flatten_cons,List.flatten_nil,List.length_append,List.length_nil,List.length_cons,Nat.add_zero,Nat.zero_add]
  refine gm tv45 12 [] fun _=>?_;subst e33;exact qr2
theorem Ko_ (b:BookR) (x:BindR):Fn Tryz.prog gb 223 [.agg (BookR.pc b), .agg (BindR.pc x)] (.int .i64 (C5_ b x)):=by
  refine fC Tryz.func223 tv45 Tryz.ntmps223 fun w N H hG=>?_;have e0:=C5_.eq_1 b x;refine gm tv45 13 [0,1] fun B2=>?_;refine call (idxF_Bind _ _ _ _ (fun z_4:BindR=>decide (x=z_4)) (fun z_4=>bind_same x z_4)) rfl rfl fun w5=>?_;have hix5:=H8_ (fun z_4:BindR=>decide (x=z_4)) b.binds;refine gx tv45 4 ?_;exact rt1 rfl rfl (J_ (fun r:Int=> .int .i64 r) e0 (ple rfl))
abbrev R0_:Int->PV:=fun r=> .int .i64 r
def tbv46:Tb:=[(4,ty4),(5,ty5),(9,ty9),(41,ty41),(43,ty43),(64,ty64),(69,ty69),(106,Ns_),(377,ty377)]
theorem tv46:tbB Tryz.prog tbv46=true:=by kernel_rfl
theorem Io_ (b:BookR) (x:BindR) (hb:b.binds.length<=1000:=by first|omega|(simp;omega)|decide +kernel) (hw:x.want.length<=1000:=by first|omega|(simp;omega)|decide +kernel):Fn Tryz.prog gb 134 [.agg (BookR.pc b), .agg (BindR.pc x)] (.tup [.agg (BookR.pc ((As_ b x).1)), .int .i64 ((As_ b x).2)]):=by
  refine fC Tryz.func134 tv46 Tryz.ntmps134 fun w N H hG=>?_;have e0:=As_.eq_1 b x;generalize As_ b x=z at e0 ⊢;refine gm tv46 13 [0,1,2] fun B2=>?_;refine call (Om_ _ _) rfl rfl fun w5=>?_;refine gm tv46 17 [3] fun B7=>?_;refine cE e0 (fun h8 e10=>?_) (fun h8 e13=>?_)
  · have h9:=Ds_ h8;refine gm tv46 10 [] fun _=>?_;subst e10;exact qr2
  have h12:=D2_ h8;refine gx tv46 8 ?_;refine cD e13 (fun p15 e16=>?_) (fun p18 e19=>?_)
  · refine gm tv46 10 [] fun _=>?_;subst e16;exact qr2
  refine gx tv46 8 ?_;refine call (Dd_ _) rfl rfl fun w20=>?_;refine gx tv46 9 ?_;refine cN e19 (fun p23 e24=>?_) (fun p27 e28=>?_)
  · refine gm tv46 10 [] fun _=>?_;subst e24;exact qr2
  refine gx tv46 8 ?_;refine call (Ol_ _ _) rfl rfl fun w29=>?_;refine call (Uk_ _) rfl rfl fun w30=>?_;refine gx tv46 11 ?_;refine cN e28 (fun p33 e34=>?_) (fun p37 e38=>?_)
  · refine gm tv46 11 [] fun _=>?_;subst e34;exact qr2
  refine gx tv46 4 ?_;refine cV e38 R0_ (Ko_ _ _) rfl fun r hr39 e41 w40=>?_;have hA41:=there_r b x
  (try rw[<- hr39] at hA41)
  refine gx tv46 4 ?_;refine cD e41 (fun p44 e45=>?_) (fun p47 e48=>?_)
  · refine gm tv46 10 [] fun _=>?_;subst e45;exact qr2
  refine gx tv46 9 ?_;refine cD e48 (fun p50 e51=>?_) (fun p53 e54=>?_)
  · refine gm tv46 10 [] fun _=>?_;subst e51;exact qr2
  refine gx tv46 4 ?_;refine aN [4,5,6,7,8,9] 9 mixd ?_;refine gX tv46 [0,1,2] 6 ?_;refine vE 3 rfl (eC (T1_ _) rfl fun w55=>?_);refine vE 4 rfl (bsl 4 BindR.pc [x] tv46 rfl rfl rfl rfl rfl (fun _=>rfl) rfl (by decide) (by decide) rfl fun u56=>?_);refine vE 5 rfl (Tt_ 4 rfl (bsl 4 (slc BindR.pc) [b.binds,[x]] tv46 rfl rfl rfl rfl rfl (fun _=>rfl) rfl (by decide) (by decide) rfl fun u57=>?_));refine vE 6 rfl (Tt_ 4 rfl (Zb_ (eC (Rn_ _) rfl fun w58=>?_)));have hfl58:([b.binds,[x]].flatten).length=b.binds.length+1:=by simp only[List.flatten_cons,List.flatten_nil,List.length_append,List.length_nil,List.length_cons,Nat.add_zero,Nat.zero_add]
  refine gX tv46 [7] 1 ?_;refine vT 8 rfl (sO tv46 ?_);refine vD ?_;refine gm tv46 9 [] fun _=>?_;subst e54;exact qr2
theorem Km_ (b:BookR) (shop:Bs) (key:Bs) (h:List Pair) (hb:b.binds.length<=1000:=by first|omega|(simp;omega)|decide +kernel) (hk:key.length<4294967281:=by first|omega|(simp;omega)|decide +kernel) (hr:∀ y∈b.binds,y.key.length<4294967281:=by first|assumption|decide +kernel):Fn Tryz.prog gb 198 [.agg (BookR.pc b), .str shop, .str key, .sl Pair.pc h] (.tup [.sl strc ((Bc_ b shop key h).1), .sl strc ((Bc_ b shop key h).2.1), .int .i64 ((Bc_ b shop key h).2.2)]):=by
  refine fC Tryz.func198 tv46 Tryz.ntmps198 fun w N H hG=>?_;have e0:=Bc_.eq_1 b shop key h;generalize Bc_ b shop key h=z at e0 ⊢;refine gm tv46 13 [0] fun B2=>?_;refine call (Om_ _ _) rfl rfl fun w3=>?_;refine gm tv46 17 [1] fun B5=>?_;refine cE e0 (fun h6 e8=>?_) (fun h6 e10=>?_)
  · have h7:=Ds_ h6;refine gx tv46 11 ?_;subst e8;exact rt3 rfl rfl (Ev_ (A_ S_ (A_ S_ (A_ (ple rfl) Y_))))
  have h9:=D2_ h6;refine gx tv46 8 ?_;refine cD e10 (fun p12 e13=>?_) (fun p15 e16=>?_)
  · refine gx tv46 1 ?_;refine aN [2,3,4,5,6,7] 6 mixd ?_;refine gX tv46 [0,1,3] 3 ?_;refine vE 2 rfl (bsl 2 strc [((F2_ b.shops shop).getD ShopR.zero).to'] tv46 rfl rfl rfl rfl rfl (fun _=>rfl) rfl (by decide) (by decide) rfl fun u14=>?_);refine gX tv46 [4,5] 0 ?_;refine vD ?_;refine gx tv46 1 ?_;refine givec 2 rfl ?_;refine gx tv46 4 ?_;subst e13;exact rt3 rfl rfl (Ev_ (A_ S_ (A_ (ple rfl) (A_ (ple rfl) Y_))))
  refine gx tv46 22 ?_;refine sw_own (t:=13) (k:=1) (e:=9) 2 strc rfl rfl ?_;refine sw_own (t:=14) (k:=1) (e:=9) 3 strc rfl rfl ?_;refine loop (ι:=Nat×(List Bs)×(List Bs)×Value×Value) [1,2,3,8,9,10,11,34,35] [0,1] (fun ⟨k,queues,places,u_queues,u_places⟩=>[(36, .int .i64 (k:Int)),(13, .osl 2),(14, .osl 3)]) (fun ⟨k,queues,places,u_queues,u_places⟩=>[(2, .arr u_queues 1 9 strc queues),(3, .arr u_places 1 9 strc places)]) (fun ⟨k,queues,places,u_queues,u_places⟩=>k<=b.binds.length/\z=Ah_ b shop key h (b.binds.drop k) queues places/\queues.length<=k/\places.length<=k) (fun ⟨k,queues,places,u_queues,u_places⟩=>b.binds.length-k) ⟨0,[],[],(.slice none 0 0),(.slice none 0 0)⟩ ⟨rfl,rfl,rfl,trivial⟩ ⟨rfl,rfl,trivial⟩ ?_ ?_
  · exact⟨Nat.zero_le _,e16,(by first|omega|(simp;done)|(simp;omega))⟩
  rintro⟨k,queues,places,u_queues,u_places⟩ ⟨hp17_1,hp17_2,hp17_3⟩;refine gx tv46 6 ?_;refine cn rfl (fun p19=>?_) fun p52=>?_
  · have e20:=A7_ (f:=fun zz=>Ah_ b shop key h zz queues places) hp17_2 (Es_ (by omega)) (Ah_.eq_2 _ _ _ _ _ _ _ _);have hc21:=getG (xs:=b.binds) (k:=k) (by omega);have hr_hc21:=hr (gt b.binds k) (List.mem_of_getElem? hc21);refine gx tv46 6 ?_;refine q1 (qidx tv46 k rfl rfl rfl hc21 rfl rfl rfl rfl) rfl fun w22=>?_;refine gm tv46 7 [4] fun B24=>?_;obtain⟨o,e_o,q_o⟩:=G6_ e20;refine Jn_ (ι:=Bool) [1,2,3,8,9,10,11,13,14,16,34,35,36] [0,1,2,3,4] (fun v=>[(44, .bool v)]) (fun v=>[]) (fun v=>o=v) ?_ ?_
    · refine gx tv46 9 ?_;refine cN e_o (fun p27 e28=>?_) (fun p30 e31=>?_)
      · refine gx tv46 1 ?_;refine nX (!decide (((gt b.binds k).shop)=shop)) ?_ ⟨rfl,trivial⟩ trivial;exact e28
      refine gx tv46 4 ?_;refine call (Ol_ _ _) rfl rfl fun w32=>?_;refine gx tv46 2 ?_;refine call (Tj_ _ _ _ (hrk:=by simp only[Ku_];omega)) rfl rfl fun w33=>?_;refine gx tv46 3 ?_;refine nX (!(Pu_ (Ku_ (gt b.binds k) (((F2_ b.shops shop).getD ShopR.zero).sort)) key h)) ?_ ⟨rfl,trivial⟩ trivial;exact e31
    rintro v hp34;have e35:=Ke_ q_o hp34;refine gx tv46 1 ?_;refine cE e35 (fun h36 e37=>?_) (fun h36 e38=>?_)
    · refine gy tv46 8 ?_;refine next ⟨(k+1),queues,places,(u_queues),(u_places)⟩ rfl rfl ⟨rfl,rfl,rfl,trivial⟩ ⟨rfl,rfl,trivial⟩ ?_ ?_
      · (try simp only[]);omega
      exact⟨by (try simp only[]);omega,e37,⟨by (try simp only[]);omega,by (try simp only[]);omega⟩⟩
    refine gx tv46 7 ?_;refine cE e38 (fun h39 e40=>?_) (fun h39 e46=>?_)
    · refine gx tv46 4 ?_;refine ef (ecallw (Qs_ _ _) rfl rfl rfl rfl rfl rfl ?_);generalize hr43:Gs_ places ((gt b.binds k).to')=r;intro u41 w42;have e44:=e40.trans (Ei_ hr43.symm);have hr43:=hr43.symm;have hA44:=put_len places ((gt b.binds k).to')
      (try rw[<- hr43] at hA44)
      refine gy tv46 9 ?_;refine lj_osl (t:=14) 3 rfl rfl ?_;refine next ⟨(k+1),queues,r,(u_queues),(u41)⟩ rfl rfl ⟨rfl,rfl,rfl,trivial⟩ ⟨rfl,rfl,trivial⟩ ?_ ?_
      · (try simp only[]);omega
      exact⟨by (try simp only[]);omega,e44,⟨by (try simp only[]);omega,by (try simp only[]);omega⟩⟩
    refine gx tv46 4 ?_;refine ef (ecallw (Qs_ _ _) rfl rfl rfl rfl rfl rfl ?_);generalize hr49:Gs_ queues ((gt b.binds k).to')=r1;intro u47 w48;have e50:=e46.trans (Ei_ hr49.symm);have hr49:=hr49.symm;have hA50:=put_len queues ((gt b.binds k).to')
    (try rw[<- hr49] at hA50)
    refine gy tv46 9 ?_;refine lj_osl (t:=13) 2 rfl rfl ?_;refine next ⟨(k+1),r1,places,(u47),(u_places)⟩ rfl rfl ⟨rfl,rfl,rfl,trivial⟩ ⟨rfl,rfl,trivial⟩ ?_ ?_
    · (try simp only[]);omega
    exact⟨by (try simp only[]);omega,e50,⟨by (try simp only[]);omega,by (try simp only[]);omega⟩⟩
  have e53:=A7_ (f:=fun zz=>Ah_ b shop key h zz queues places) hp17_2 (Et_ (by omega)) (Ah_.eq_1 _ _ _ _ _ _);refine gx tv46 14 ?_;refine givec 2 rfl ?_;refine givec 3 rfl ?_;refine gx tv46 2 ?_;subst e53;exact qr3
abbrev ty36:TI:=⟨.slc 73,1,24,[.sl DeedR.pc []]⟩
def tbv42:Tb:=[(36,ty36),(73,ty73)]
theorem tv42:tbB Tryz.prog tbv42=true:=by kernel_rfl
theorem Xt_ (l:List DeedR):Fn Tryz.prog gb 12 [.sl DeedR.pc l] (.bool (Kb_ l)):=by
  refine fC Tryz.func12 tv42 Tryz.ntmps12 fun w N H hG=>?_;have l_l:l.length<=140737488355328:=w.1.1;have e0:=Kb_.eq_1 l;generalize Kb_ l=z at e0 ⊢;refine gx tv42 14 ?_;refine loop (ι:=Nat) [0,5,6] [] (fun k=>[(7, .int .i64 (k:Int))]) (fun k=>[]) (fun k=>k<=l.length/\z=Dt_ l (l.drop k)) (fun k=>l.length-k) 0 ⟨rfl,trivial⟩ trivial ?_ ?_
  · exact⟨Nat.zero_le _,e0⟩
  rintro k ⟨hp1_1,hp1_2⟩;refine gx tv42 6 ?_;refine cn rfl (fun p3=>?_) fun p15=>?_
  · have e4:=A7_ (f:=fun zz=>Dt_ l zz) hp1_2 (Es_ (by omega)) (Dt_.eq_2 _ _ _);have hc5:=getG (xs:=l) (k:=k) (by omega);refine gx tv42 6 ?_;refine q1 (qidx tv42 k rfl rfl rfl hc5 rfl rfl rfl rfl) rfl fun w6=>?_;refine gm tv42 8 [0] fun B8=>?_;refine call (l22_Light _) rfl rfl fun w9=>?_;have hld9:=Py_ (gt l k);refine gx tv42 3 ?_;refine cE e4 (fun h10 e12=>?_) (fun h10 e14=>?_)
    · have h11:=Ds_ h10;refine gx tv42 11 ?_;subst e12;exact qr1
    have h13:=D2_ h10;refine gy tv42 7 ?_;refine next (k+1) rfl rfl ⟨rfl,trivial⟩ trivial ?_ ?_
    · (try simp only[]);omega
    exact⟨by (try simp only[]);omega,e14⟩
  have e16:=A7_ (f:=fun zz=>Dt_ l zz) hp1_2 (Et_ (by omega)) (Dt_.eq_1 _);refine gx tv42 14 ?_;subst e16;exact qr1
def tbv47:Tb:=[(9,ty9),(43,ty43),(64,ty64),(69,ty69),(73,ty73),(106,Ns_)]
theorem tv47:tbB Tryz.prog tbv47=true:=by kernel_rfl
theorem l14_awake:Fn Tryz.prog gb 319 [] (.bool true):=by
  refine fC Tryz.func319 tv47 Tryz.ntmps319 fun w N H hG=>?_;refine gx tv47 9 ?_;refine call (Lb_ (⟨[],[]⟩:BookR) (⟨[97],1,[]⟩:ShopR)) rfl rfl fun w1=>?_;refine gm tv47 12 [0] fun B3=>?_;refine call (Io_ _ (⟨[97],[113],false,[],[],false⟩:BindR)) rfl rfl fun w4=>?_;refine gm tv47 10 [] fun _=>?_;refine call (Io_ _ (⟨[97],[113],false,[120],[],false⟩:BindR)) rfl rfl fun w6=>?_;refine gm tv47 10 [] fun _=>?_;refine call (Fn.le (Km_ _ _ _ []) (A_ (ple rfl) (A_ (ple rfl) (A_ (ple rfl) (A_ S_ Y_)))) (ple rfl) rfl) rfl rfl fun w8=>?_;refine gx tv47 11 ?_;refine call Mk_ rfl rfl fun w9=>?_;refine gx tv47 1 ?_;refine ungd rfl rfl ?_;refine call l10_Awake rfl rfl fun w10=>?_;refine gx tv47 2 ?_;refine ungd rfl rfl ?_;refine gx tv47 1 ?_;refine ungd rfl rfl ?_;refine gx tv47 1 ?_;refine so_rt (t:=37) (p':= .bool true) (ple (congrArg PV.bool (show decide (((As_ ((As_ ((B0_ (⟨[],[]⟩:BookR) (⟨[97],1,[]⟩:ShopR)).1) (⟨[97],[113],false,[],[],false⟩:BindR)).1) (⟨[97],[113],false,[120],[],false⟩:BindR)).2)=0)=true by decide +kernel))) rfl ?_;refine gx tv47 2 ?_;refine ungd rfl rfl ?_;refine gx tv47 1 ?_;refine ungd rfl rfl ?_;refine gx tv47 1 ?_;refine so_rt (t:=41) (p':= .bool true) (ple (congrArg PV.bool (show decide (((Bc_ ((As_ ((As_ ((B0_ (⟨[],[]⟩:BookR) (⟨[97],1,[]⟩:ShopR)).1) (⟨[97],[113],false,[],[],false⟩:BindR)).1) (⟨[97],[113],false,[120],[],false⟩:BindR)).1) [97] [] []).2.2)=0)=true by decide +kernel))) rfl ?_;refine gx tv47 2 ?_;refine ungd rfl rfl ?_;refine gx tv47 1 ?_;refine ungd rfl rfl ?_;refine ef (bsl 1 strc [[113]] tv47 rfl rfl rfl rfl rfl (fun _=>rfl) rfl (by decide) (by decide) rfl fun u11=>?_);refine ungd rfl rfl ?_;refine ef (calll 1 rfl (eq_Str _ _) rfl rfl rfl fun w12=>?_);refine so_rt (t:=46) (p':= .bool true) (ple (congrArg PV.bool (show decide (((Bc_ ((As_ ((As_ ((B0_ (⟨[],[]⟩:BookR) (⟨[97],1,[]⟩:ShopR)).1) (⟨[97],[113],false,[],[],false⟩:BindR)).1) (⟨[97],[113],false,[120],[],false⟩:BindR)).1) [97] [] []).1)=[[113]])=true by decide +kernel))) rfl ?_;refine gx tv47 2 ?_;refine ungd rfl rfl ?_;refine gx tv47 1 ?_;refine ungd rfl rfl ?_;refine gx tv47 1 ?_;refine ungd rfl rfl ?_;refine gx tv47 1 ?_;refine so_rt (t:=51) (p':= .bool true) (ple (congrArg PV.bool (show decide ((((Bc_ ((As_ ((As_ ((B0_ (⟨[],[]⟩:BookR) (⟨[97],1,[]⟩:ShopR)).1) (⟨[97],[113],false,[],[],false⟩:BindR)).1) (⟨[97],[113],false,[120],[],false⟩:BindR)).1) [97] [] []).2.1).length:Int)=0)=true by decide +kernel))) rfl ?_;refine gx tv47 5 ?_;refine rt1 rfl rfl (ple ?_);exact congrArg PV.bool (by first|rfl|decide +kernel)
theorem l14_Awake:Fn Tryz.prog gb 286 [] (.bool true):=by
  refine fC Tryz.func286 tv47 Tryz.ntmps286 fun w N H hG=>?_;refine gx tv47 7 ?_;refine call l14_awake rfl rfl fun w1=>?_;refine gx tv47 4 ?_;refine rt1 rfl rfl (ple ?_)
  rfl
theorem l22_awake:Fn Tryz.prog gb 242 [] (.bool true):=by
  refine fC Tryz.func242 tv47 Tryz.ntmps242 fun w N H hG=>?_;refine gx tv47 8 ?_;refine call (deed_Bytes (⟨11,1,(⟨[],0,[]⟩:ShopR),(⟨[],0,0,[]⟩:QueueR),(⟨[],[],false,[],[],false⟩:BindR),[],0,0,0,0,0,(⟨0,[],[],[],[],0,0⟩:Mail),[]⟩:DeedR)) rfl rfl fun w1=>?_;have :=U6_ (d:=(⟨11,1,(⟨[],0,[]⟩:ShopR),(⟨[],0,0,[]⟩:QueueR),(⟨[],[],false,[],[],false⟩:BindR),[],0,0,0,0,0,(⟨0,[],[],[],[],0,0⟩:Mail),[]⟩:DeedR)) (by first|omega|decide);have :=Za_ (⟨11,1,(⟨[],0,[]⟩:ShopR),(⟨[],0,0,[]⟩:QueueR),(⟨[],[],false,[],[],false⟩:BindR),[],0,0,0,0,0,(⟨0,[],[],[],[],0,0⟩:Mail),[]⟩:DeedR);refine gx tv47 9 ?_;refine call Sh_ rfl rfl fun w2=>?_;refine gx tv47 1 ?_;refine ungd rfl rfl ?_;refine call l14_Awake rfl rfl fun w3=>?_;refine gx tv47 2 ?_;refine ungd rfl rfl ?_;refine gx tv47 1 ?_;refine ungd rfl rfl ?_;refine gx tv47 1 ?_;refine so_rt (t:=14) (p':= .bool true) (ple (congrArg PV.bool (show decide ((Ga_ (⟨11,1,(⟨[],0,[]⟩:ShopR),(⟨[],0,0,[]⟩:QueueR),(⟨[],[],false,[],[],false⟩:BindR),[],0,0,0,0,0,(⟨0,[],[],[],[],0,0⟩:Mail),[]⟩:DeedR))=0)=true by decide +kernel))) rfl ?_;refine gx tv47 2 ?_;refine ungd rfl rfl ?_;refine gx tv47 1 ?_;refine ungd rfl rfl ?_;refine gx tv47 1 ?_;refine ungd rfl rfl ?_;refine gx tv47 1 ?_;refine so_rt (t:=19) (p':= .bool true) (ple (congrArg PV.bool (show decide (((A4_ (⟨11,1,(⟨[],0,[]⟩:ShopR),(⟨[],0,0,[]⟩:QueueR),(⟨[],[],false,[],[],false⟩:BindR),[],0,0,0,0,0,(⟨0,[],[],[],[],0,0⟩:Mail),[]⟩:DeedR)).length:Int)=9)=true by decide +kernel))) rfl ?_;refine gx tv47 5 ?_;refine rt1 rfl rfl (ple ?_);exact congrArg PV.bool (by first|rfl|decide +kernel)
theorem l22_Awake:Fn Tryz.prog gb 182 [] (.bool true):=by
  refine fC Tryz.func182 tv47 Tryz.ntmps182 fun w N H hG=>?_;refine gx tv47 7 ?_;refine call l22_awake rfl rfl fun w1=>?_;refine gx tv47 4 ?_;refine rt1 rfl rfl (ple ?_)
  rfl
abbrev R1_:Mail->PV:=fun r=> .agg (Mail.pc r)
theorem cb212:U_ Tryz.prog 212:=P_ Tryz.func212 (by kernel_rfl) (by kernel_rfl)
theorem cb215:U_ Tryz.prog 215:=P_ Tryz.func215 (by kernel_rfl) (by kernel_rfl)
theorem cb255:U_ Tryz.prog 255:=P_ Tryz.func255 (by kernel_rfl) (by kernel_rfl)
theorem cb271:U_ Tryz.prog 271:=P_ Tryz.func271 (by kernel_rfl) (by kernel_rfl)
theorem cb303:U_ Tryz.prog 303:=P_ Tryz.func303 (by kernel_rfl) (by kernel_rfl)
theorem cb323:U_ Tryz.prog 323:=P_ Tryz.func323 (by kernel_rfl) (by kernel_rfl)
abbrev ty24:TI:=⟨.agg [(0,1),(1,1),(2,1)],3,32,[.int .u64 0, .int .u8 0, .str []]⟩
abbrev ty31:TI:=⟨.slc 129,1,24,[.sl PlaceR.pc []]⟩
abbrev ty32:TI:=⟨.slc 3,1,24,[.sl i64c []]⟩
abbrev ty33:TI:=⟨.slc 146,1,24,[.sl GrantR.pc []]⟩
abbrev ty35:TI:=⟨.agg [(0,1),(1,1),(2,1),(3,1),(4,1)],5,88,[.int .i64 0, .int .i64 0, .sl PlaceR.pc [], .sl i64c [], .sl GrantR.pc []]⟩
abbrev ty44:TI:=⟨.slc 242,1,24,[.sl RowR.pc []]⟩
abbrev ty45:TI:=⟨.slc 71,1,24,[.sl Mail.pc []]⟩
abbrev ty51:TI:=⟨.slc 24,1,24,[.sl NoteR.pc []]⟩
abbrev ty53:TI:=⟨.agg [(0,1),(1,1)],2,32,[.int .u64 0, .sl NoteR.pc []]⟩
abbrev ty75:TI:=⟨.agg [(0,7),(7,1),(8,1)],9,104,[.int .u64 0, .str [], .str [], .sl Pair.pc [], .str [], .int .u64 0, .int .u8 0, .bool false, .bool false]⟩
abbrev ty125:TI:=⟨.int .u32,1,4,[.int .u32 0]⟩
abbrev Tq_:TI:=⟨.agg [(0,1),(1,1)],2,8,[.int .u8 0, .int .u32 0]⟩
abbrev Oj_:TI:=⟨.agg [(0,1),(1,2),(3,1),(4,1)],5,40,[.str [], .int .u8 0, .int .u32 0, .int .i64 0, .int .u64 0]⟩
abbrev ty146:TI:=⟨.agg [(0,1),(1,1),(2,1)],3,24,[.int .i64 0, .int .i64 0, .int .i64 0]⟩
abbrev ty205:TI:=⟨.oth,1,8,[.val .nilFunc]⟩
abbrev ty238:TI:=⟨.slc 75,1,24,[.sl ItemR.pc []]⟩
abbrev Wh_:TI:=⟨.agg [(0,1)],1,24,[.sl ItemR.pc []]⟩
abbrev ty242:TI:=⟨.agg [(0,4),(4,1)],5,72,[.str [], .int .u64 0, .int .u64 0, .str [], .sl ItemR.pc []]⟩
abbrev ty322:TI:=⟨.slc 51,1,24,[.sl (slc NoteR.pc) []]⟩
abbrev ty360:TI:=⟨.slc 44,1,24,[.sl (slc RowR.pc) []]⟩
abbrev ty399:TI:=⟨.slc 238,1,24,[.sl (slc ItemR.pc) []]⟩
abbrev ty408:TI:=⟨.slc 45,1,24,[.sl (slc Mail.pc) []]⟩
def tbv90:Tb:=[(3,ty3),(4,ty4),(5,ty5),(9,ty9),(22,ty22),(24,ty24),(31,ty31),(32,ty32),(33,ty33),(35,ty35),(40,ty40),(44,ty44),(45,ty45),(51,ty51),(53,ty53),(64,ty64),(67,ty67),(71,ty71),(75,ty75),(125,ty125),(127,Tq_),(129,Oj_),(146,ty146),(205,ty205),(238,ty238),(240,Wh_),(242,ty242),(322,ty322),(360,ty360),(399,ty399),(408,ty408)]
theorem tv90:tbB Tryz.prog tbv90=true:=by kernel_rfl
theorem Gq_ (n:Int) (least:Int) (most:Int):Fn Tryz.prog gb 270 [.int .i64 n, .int .i64 least, .int .i64 most] (.bool (Cn_ n least most)):=by
  refine fC Tryz.func270 tv90 Tryz.ntmps270 fun w N H hG=>?_;have e0:=Cn_.eq_1 n least most;refine gy tv90 19 ?_;exact rt1 rfl rfl (J_ (fun r:Bool=> .bool r) e0 (ple rfl))
theorem Go_ (a:LabelR) (b:LabelR):Fn Tryz.prog gb 178 [.agg (LabelR.pc a), .agg (LabelR.pc b)] (.bool (Gc_ a b)):=by
  refine fC Tryz.func178 tv90 Tryz.ntmps178 fun w N H hG=>?_;have e0:=Gc_.eq_1 a b;have :=wr_u32 ((BitVec.ofInt (IntKind.bits .u32) a.set_ &&& ~~~ BitVec.ofInt (IntKind.bits .u32) b.set_).toNat);refine gmy tv90 26 [0,1] fun B2=>?_;exact rt1 rfl rfl (J_ (fun r:Bool=> .bool r) e0 (ple rfl))
theorem D1_ (p:PolicyR) (i:Int):Fn Tryz.prog gb 209 [.agg (PolicyR.pc p), .int .i64 i] (.bool (Am_ p i)):=by
  refine fC Tryz.func209 tv90 Tryz.ntmps209 fun w N H hG=>?_;have p_places_l:p.places.length<=140737488355328:=w.1.2.2.1.1;have p_slots_l:p.slots.length<=140737488355328:=w.1.2.2.2.1.1;have p_grants_l:p.grants.length<=140737488355328:=w.1.2.2.2.2.1.1;have i_r:-9223372036854775808<=i/\i<=9223372036854775807:=w.2.1;have e0:=Am_.eq_1 p i;refine gmy tv90 13 [0] fun B2=>?_;refine call (Gq_ _ _ _) rfl rfl fun w3=>?_;refine gx tv90 4 ?_;exact rt1 rfl rfl (J_ (fun r:Bool=> .bool r) e0 (ple rfl))
theorem S6_ (x:PlaceR) (x1:Bs):Fn Tryz.prog gb 217 [.agg (PlaceR.pc x), .el [.str x1] 0] (.bool (Jf_ x x1)):=by
  refine fC Tryz.func217 tv90 Tryz.ntmps217 fun w N H hG=>?_;have e0:=Jf_.eq_1 x x1;refine gm tv90 16 [0] fun B2=>?_;exact rt1 rfl rfl (J_ (fun r:Bool=> .bool r) e0 (ple rfl))
theorem Qz_ (x:GrantR) (x1:Int) (x2:Int):Fn Tryz.prog gb 211 [.agg (GrantR.pc x), .el [.int .i64 x1] 0, .el [.int .i64 x2] 0] (.bool (Hh_ x x1 x2)):=by
  refine fC Tryz.func211 tv90 Tryz.ntmps211 fun w N H hG=>?_;have e0:=Hh_.eq_1 x x1 x2;refine gmy tv90 22 [0] fun B2=>?_;exact rt1 rfl rfl (J_ (fun r:Bool=> .bool r) e0 (ple rfl))
theorem Ho_ (n:B7_):Fn Tryz.prog gb 63 [.agg (B7_.pc n)] (.int .u64 (E2_ n)):=by
  refine fC Tryz.func63 tv90 Tryz.ntmps63 fun w N H hG=>?_;have e0:=E2_.eq_1 n;refine gm tv90 14 [0] fun B2=>?_;exact rt1 rfl rfl (J_ (fun r:Int=> .int .u64 r) e0 (ple rfl))
theorem Ty_ (p:PolicyR) (tick:Int) (hs:0<p.slots.length:=by omega):Fn Tryz.prog gb 260 [.agg (PolicyR.pc p), .int .u64 tick] (.int .u64 (N7_ p tick)):=by
  refine fC Tryz.func260 tv90 Tryz.ntmps260 fun w N H hG=>?_;have p_places_l:p.places.length<=140737488355328:=w.1.2.2.1.1;have p_slots_l:p.slots.length<=140737488355328:=w.1.2.2.2.1.1;have p_grants_l:p.grants.length<=140737488355328:=w.1.2.2.2.2.1.1;have tick_r:0<=tick/\tick<=18446744073709551615:=w.2.1;have e0:=N7_.eq_1 p tick;refine gm tv90 12 [0] fun B2=>?_;refine q1 (qconv tv90 rfl rfl rfl rfl (Tg_ (by omega))) rfl fun w3=>?_;refine gy tv90 5 ?_;exact rt1 rfl rfl (J_ (fun r:Int=> .int .u64 r) e0 (ple rfl))
theorem Ft_ (m:Mail) (hh:m.head.length<=1000000:=by first|omega|(simp;omega)|decide +kernel):Fn Tryz.prog gb 118 [.agg (Mail.pc m)] (.agg (Mail.pc (D_ m))):=by
  refine fC Tryz.func118 tv90 Tryz.ntmps118 fun w N H hG=>?_;have e0:=D_.eq_1 m;refine gm tv90 10 [0,1] fun B2=>?_;refine call (T4_ _) rfl rfl fun w4=>?_;refine gm tv90 11 [] fun _=>?_;exact rt1 rfl rfl (J_ (fun r:Mail=> .agg (Mail.pc r)) e0 (ple rfl))
theorem K1_ (m:Mail):Fn Tryz.prog gb 228 [.agg (Mail.pc m)] (.int .i64 (Fu_ m)):=by
  refine fC Tryz.func228 tv90 Tryz.ntmps228 fun w N H hG=>?_;have e0:=Fu_.eq_1 m;refine gm tv90 9 [0] fun B2=>?_;refine call (P6_ _) rfl rfl fun w3=>?_;have :=Hf_ m;refine gx tv90 15 ?_;exact rt1 rfl rfl (J_ (fun r:Int=> .int .i64 r) e0 (ple rfl))
theorem G0_ (x:ItemR) (hh:x.mail.head.length<=1000000:=by omega):Fn Tryz.prog gb 230 [.agg (ItemR.pc x)] (.agg (ItemR.pc (By_ x))):=by
  refine fC Tryz.func230 tv90 Tryz.ntmps230 fun w N H hG=>?_;have e0:=By_.eq_1 x;refine gm tv90 10 [0,1] fun B2=>?_;refine cV e0 R1_ (Ft_ _) rfl fun r hr4 e6 w5=>?_;refine gm tv90 11 [] fun _=>?_;exact rt1 rfl rfl (J_ (fun r:ItemR=> .agg (ItemR.pc r)) e6 (ple rfl))
theorem Zj_ (x0:Mail):Fn Tryz.prog gb 263 [.agg (Mail.pc x0)] (.bool (V0_ x0)):=by
  refine fC Tryz.func263 tv90 Tryz.ntmps263 fun w N H hG=>?_;have e0:=V0_.eq_1 x0;refine gm tv90 12 [0] fun B2=>?_;exact rt1 rfl rfl (J_ (fun r:Bool=> .bool r) e0 (ple rfl))
theorem Zk_ (x:ItemR) (x1:Int):Fn Tryz.prog gb 302 [.agg (ItemR.pc x), .el [.int .u64 x1] 0] (.bool (O1_ x x1)):=by
  refine fC Tryz.func302 tv90 Tryz.ntmps302 fun w N H hG=>?_;have e0:=O1_.eq_1 x x1;refine gm tv90 17 [0] fun B2=>?_;exact rt1 rfl rfl (J_ (fun r:Bool=> .bool r) e0 (ple rfl))
theorem Jp_ (l:LineR):Fn Tryz.prog gb 144 [.agg (LineR.pc l)] (.int .i64 (Bp_ l)):=by
  refine fC Tryz.func144 tv90 Tryz.ntmps144 fun w N H hG=>?_;have e0:=Bp_.eq_1 l;refine gm tv90 15 [0] fun B2=>?_;exact rt1 rfl rfl (J_ (fun r:Int=> .int .i64 r) e0 (ple rfl))
theorem Vz_ (m:Mail) (x1:Int):Fn Tryz.prog gb 269 [.agg (Mail.pc m), .el [.int .u64 x1] 0] (.bool (P0_ m x1)):=by
  refine fC Tryz.func269 tv90 Tryz.ntmps269 fun w N H hG=>?_;have e0:=P0_.eq_1 m x1;refine gmy tv90 21 [0] fun B2=>?_;exact rt1 rfl rfl (J_ (fun r:Bool=> .bool r) e0 (ple rfl))
theorem O2_ (x:ItemR):Fn Tryz.prog gb 301 [.agg (ItemR.pc x), .el [.fn 263 [] []] 0] (.bool (G5_ x)):=by
  refine fC Tryz.func301 tv90 Tryz.ntmps301 fun w N H hG=>?_;have e0:=G5_.eq_1 x;refine gmy tv90 15 [0] fun B2=>?_;refine callgF rfl (fun hc=>(Zj_ _)) rfl ⟨(fun hc=>hc),(fun hc=>hc),trivial⟩ rfl rfl fun _=>?_;refine gy tv90 5 ?_;exact rt1 rfl rfl (J_ (fun r:Bool=> .bool r) e0 (ple rfl))
theorem N0_ (x:ItemR) (x1:Int):Fn Tryz.prog gb 301 [.agg (ItemR.pc x), .el [.fn 269 [] [.el [.int .u64 x1] 0]] 0] (.bool (Gp_ x x1)):=by
  refine fC Tryz.func301 tv90 Tryz.ntmps301 fun w N H hG=>?_;have e0:=Gp_.eq_1 x x1;refine gmy tv90 15 [0] fun B2=>?_;refine callgF rfl (fun hc=>(Vz_ _ _)) rfl ⟨(fun hc=>hc),(fun hc=>hc),trivial⟩ rfl rfl fun _=>?_;refine gy tv90 5 ?_;exact rt1 rfl rfl (J_ (fun r:Bool=> .bool r) e0 (ple rfl))
theorem Ub_ (s:List PlaceR) (f:FuncId) (f_fst f_cap:List PV) (f_p:PlaceR->Bool) (f_h:∀ x,Fn Tryz.prog gb f (argsP.apL f_fst ((.agg (PlaceR.pc x))::f_cap)) (.bool (f_p x))):Fn Tryz.prog gb 216 [.sl PlaceR.pc s, .fn f f_fst f_cap] (.int .i64 (idxP f_p s)):=by
  refine fC Tryz.func216 tv90 Tryz.ntmps216 fun w N H hG=>?_;have s_l:s.length<=140737488355328:=w.1.1;refine gx tv90 14 ?_;refine loop (ι:=Nat) [0,1,6,7] [] (fun k=>[(8, .int .i64 (k:Int))]) (fun k=>[]) (fun k=>k<=s.length/\idxP f_p s=idxF f_p k (s.drop k)) (fun k=>s.length-k) 0 ⟨rfl,trivial⟩ trivial ?_ ?_
  · exact⟨Nat.zero_le _,rfl⟩
  rintro k hp1;obtain⟨hk1,hk2⟩:=hp1;refine gx tv90 6 ?_;refine cnd rfl (fun h2=>?_) (fun h2=>?_)
  · have p3:=dt h2;obtain⟨c4,hc5⟩:=getE (xs:=s) (m:=k) (by omega);refine gx tv90 15 ?_;refine q1 (qidx tv90 k rfl rfl rfl hc5 rfl rfl rfl rfl) rfl fun w6=>?_;refine gx tv90 1 ?_;refine call (f_h c4) rfl rfl fun w7=>?_;refine gx tv90 2 ?_;refine cnd rfl (fun h8=>?_) (fun h8=>?_)
    · refine gx tv90 12 ?_;refine rt1 rfl rfl (ple ?_);exact congrArg (PV.int .i64) (L1_ hk2 (C4_ hc5) (by assumption)).symm
    refine gy tv90 7 ?_;refine next (k+1) rfl rfl ⟨rfl,trivial⟩ trivial ?_ ?_
    · omega
    exact⟨by omega,Jw_ hk2 (C4_ hc5) (by assumption)⟩
  have p9:=df h2;refine gx tv90 11 ?_;refine rt1 rfl rfl (ple ?_);exact congrArg (PV.int .i64) (L0_ hk2 (by omega)).symm
theorem cF_Place (s:List PlaceR) (f:FuncId) (f_fst f_cap:List PV) (f_p:PlaceR->Bool) (f_h:∀ x,Fn Tryz.prog gb f (argsP.apL f_fst ((.agg (PlaceR.pc x))::f_cap)) (.bool (f_p x))):Fn Tryz.prog gb 358 [.sl PlaceR.pc s, .fn f f_fst f_cap] (.bool (decide (0<=idxP f_p s))):=by
  refine fC Tryz.func358 tv90 Tryz.ntmps358 fun w N H hG=>?_;refine gx tv90 9 ?_;refine call (Ub_ _ f f_fst f_cap f_p f_h) rfl rfl fun w1=>?_;have hix1:=H8_ f_p s;refine gx tv90 5 ?_;refine rt1 rfl rfl (ple ?_)
  rfl
theorem Ua_ (s:List GrantR) (f:FuncId) (f_fst f_cap:List PV) (f_p:GrantR->Bool) (f_h:∀ x,Fn Tryz.prog gb f (argsP.apL f_fst ((.agg (GrantR.pc x))::f_cap)) (.bool (f_p x))):Fn Tryz.prog gb 210 [.sl GrantR.pc s, .fn f f_fst f_cap] (.int .i64 (idxP f_p s)):=by
  refine fC Tryz.func210 tv90 Tryz.ntmps210 fun w N H hG=>?_;have s_l:s.length<=140737488355328:=w.1.1;refine gx tv90 14 ?_;refine loop (ι:=Nat) [0,1,6,7] [] (fun k=>[(8, .int .i64 (k:Int))]) (fun k=>[]) (fun k=>k<=s.length/\idxP f_p s=idxF f_p k (s.drop k)) (fun k=>s.length-k) 0 ⟨rfl,trivial⟩ trivial ?_ ?_
  · exact⟨Nat.zero_le _,rfl⟩
  rintro k hp1;obtain⟨hk1,hk2⟩:=hp1;refine gx tv90 6 ?_;refine cnd rfl (fun h2=>?_) (fun h2=>?_)
  · have p3:=dt h2;obtain⟨c4,hc5⟩:=getE (xs:=s) (m:=k) (by omega);refine gx tv90 15 ?_;refine q1 (qidx tv90 k rfl rfl rfl hc5 rfl rfl rfl rfl) rfl fun w6=>?_;refine gx tv90 1 ?_;refine call (f_h c4) rfl rfl fun w7=>?_;refine gx tv90 2 ?_;refine cnd rfl (fun h8=>?_) (fun h8=>?_)
    · refine gx tv90 12 ?_;refine rt1 rfl rfl (ple ?_);exact congrArg (PV.int .i64) (L1_ hk2 (C4_ hc5) (by assumption)).symm
    refine gy tv90 7 ?_;refine next (k+1) rfl rfl ⟨rfl,trivial⟩ trivial ?_ ?_
    · omega
    exact⟨by omega,Jw_ hk2 (C4_ hc5) (by assumption)⟩
  have p9:=df h2;refine gx tv90 11 ?_;refine rt1 rfl rfl (ple ?_);exact congrArg (PV.int .i64) (L0_ hk2 (by omega)).symm
theorem cF_Grant (s:List GrantR) (f:FuncId) (f_fst f_cap:List PV) (f_p:GrantR->Bool) (f_h:∀ x,Fn Tryz.prog gb f (argsP.apL f_fst ((.agg (GrantR.pc x))::f_cap)) (.bool (f_p x))):Fn Tryz.prog gb 360 [.sl GrantR.pc s, .fn f f_fst f_cap] (.bool (decide (0<=idxP f_p s))):=by
  refine fC Tryz.func360 tv90 Tryz.ntmps360 fun w N H hG=>?_;refine gx tv90 9 ?_;refine call (Ua_ _ f f_fst f_cap f_p f_h) rfl rfl fun w1=>?_;have hix1:=H8_ f_p s;refine gx tv90 5 ?_;refine rt1 rfl rfl (ple ?_)
  rfl
theorem grow_Note (n:Int) (hn:0<=n/\n<=100000000:=by omega):Fo Tryz.prog gb 215 [.val (.slice none 0 0), .int .i64 n] (fun u=> .val u) 3 24 NoteR.pc ([]:List NoteR):=by
  refine Vg_ tv90 Tryz.func215 rfl Tryz.ntmps215 rfl cb215 (fun _=>rfl) rfl fun w N H hG=>?_;refine gx tv90 12 ?_;refine cnd rfl (fun h1=>?_) (fun h1=>?_)
  · have p2:=dt h1
    exfalso;omega
  have p3:=df h1;refine gx tv90 7 ?_;refine q1 (qcap0 tv90 rfl rfl rfl) rfl fun w4=>?_;refine gx tv90 1 ?_;refine q1 (qlen0 tv90 rfl rfl rfl) rfl fun w5=>?_;refine gy tv90 11 ?_;refine cn rfl (fun p7=>?_) fun p13=>?_
  · refine gx tv90 3 ?_;refine q1 (qcap0 tv90 rfl rfl rfl) rfl fun w8=>?_;refine q1 (qcut0 tv90 rfl rfl rfl rfl rfl (by omega)) rfl fun w9=>?_;refine gx tv90 1 ?_;refine ef (appz (m:=((n-(0-0))).toNat) 0 tv90 rfl rfl rfl rfl rfl rfl rfl rfl rfl rfl (by omega) (by omega) (by (try simp only[]);omega) rfl rfl fun u10=>?_);refine gx tv90 1 ?_;refine q1 (qlen0 tv90 rfl rfl rfl) rfl fun w11=>?_;refine ef (ocut NoteR.pc tv90 rfl rfl rfl rfl rfl rfl (by omega) rfl fun u12=>?_);refine gx tv90 9 ?_;refine sw_val (t:=4) (i:=0) rfl rfl ?_;refine gx tv90 1 ?_;refine ro1 (j:=0) rfl rfl rfl ?_
    rfl
  refine gx tv90 8 ?_;refine sw_own (t:=4) (k:=3) (e:=24) 0 NoteR.pc rfl rfl ?_;refine sw_val (t:=4) (i:=0) rfl rfl ?_;refine gx tv90 1 ?_;refine ro1 (j:=0) rfl rfl rfl ?_
  rfl
theorem Y7_ (ls:List (List NoteR)) (hl:ls.flatten.length<=100000000:=by first|omega|(simp;done)|(simp;omega)|(simp only[List.flatten_cons,List.flatten_nil,List.length_append,List.append_nil];simp;omega)):Fn Tryz.prog gb 129 [.sl (slc NoteR.pc) ls] (.sl NoteR.pc ls.flatten):=by
  refine fC Tryz.func129 tv90 Tryz.ntmps129 fun w N H hG=>?_;have ls_l:ls.length<=140737488355328:=w.1.1;refine gx tv90 19 ?_;refine loop (ι:=Nat×Int) [0,2,9,10] [] (fun ⟨k,n⟩=>[(3, .int .i64 n),(11, .int .i64 (k:Int))]) (fun ⟨k,n⟩=>[]) (fun ⟨k,n⟩=>k<=ls.length/\n=((ls.take k).flatten.length:Int)) (fun ⟨k,n⟩=>ls.length-k) ⟨0,0⟩ ⟨rfl,rfl,trivial⟩ trivial ?_ ?_
  · exact⟨Nat.zero_le _,by simp⟩
  rintro⟨k,n⟩ hp1;obtain⟨hk1,hk2⟩:=hp1;have hg0:=Co_ ls k;refine gx tv90 6 ?_;refine cn rfl (fun p3=>?_) fun p10=>?_
  · obtain⟨c4,hc5⟩:=getE (xs:=ls) (m:=k) (by omega);refine gx tv90 6 ?_;refine q1 (qidx tv90 k rfl rfl rfl hc5 rfl rfl rfl rfl) rfl fun w6=>?_;refine go tv90 19 rfl rfl ⟨(by have hg:=Co_ ls (k+1);have hfl:=congrArg List.length (Ao_ (by assumption :ls[k]? = some _));simp only[List.length_append] at hfl;omega),trivial⟩ ?_;refine cnd rfl (fun h7=>?_) (fun h7=>?_)
    · have p8:=dt h7
      exfalso;omega
    have p9:=df h7;refine go tv90 7 rfl rfl ⟨(by have hg:=Co_ ls (k+1);have hfl:=congrArg List.length (Ao_ (by assumption :ls[k]? = some _));simp only[List.length_append] at hfl;omega),trivial⟩ ?_;refine next ⟨(k+1),(n+(c4.length:Int))⟩ rfl rfl ⟨rfl,rfl,trivial⟩ trivial ?_ ?_
    · (try simp only[]);omega
    have hf:=Ao_ hc5;have hg:=Co_ ls (k+1);have hfl:=congrArg List.length hf
    simp only[List.length_append] at hfl
    exact⟨by omega,by (try simp only[]);omega⟩
  refine gx tv90 8 ?_;refine ef (ecallo 0 (grow_Note _) rfl rfl fun u12 w11=>?_);refine gx tv90 12 ?_;refine sw_osl (t:=6) 0 rfl rfl ?_;refine loop (ι:=Nat×(List NoteR)×Value) [0,2,3,9,10,11,12,23,24,25,26] [] (fun ⟨k,out,u_out⟩=>[(6, .osl 0),(27, .int .i64 (k:Int))]) (fun ⟨k,out,u_out⟩=>[(0, .arr u_out 3 24 NoteR.pc out)]) (fun ⟨k,out,u_out⟩=>k<=ls.length/\out=(ls.take k).flatten) (fun ⟨k,out,u_out⟩=>ls.length-k) ⟨0,([]:List NoteR),(u12)⟩ ⟨rfl,rfl,trivial⟩ ⟨rfl,trivial⟩ ?_ ?_
  · exact⟨Nat.zero_le _,by simp⟩
  rintro⟨k,out,u_out⟩ hp13;obtain⟨hk1,hk2⟩:=hp13;refine gx tv90 6 ?_;refine cn rfl (fun p15=>?_) fun p20=>?_
  · obtain⟨c16,hc17⟩:=getE (xs:=ls) (m:=k) (by omega);refine gx tv90 6 ?_;refine q1 (qidx tv90 k rfl rfl rfl hc17 rfl rfl rfl rfl) rfl fun w18=>?_;refine gx tv90 7 ?_;refine ef (app tv90 c16 rfl rfl rfl rfl rfl rfl rfl rfl rfl (src_l rfl (fun _=>rfl)) (by have hg:=Co_ ls (k+1);have hfl:=congrArg List.length (Ao_ (by assumption :ls[k]? = some _));simp only[List.length_append] at hfl;subst hk2;(try simp only[]);omega) rfl fun u19=>?_);refine go tv90 8 rfl rfl ⟨(by have hg:=Co_ ls (k+1);have hfl:=congrArg List.length (Ao_ (by assumption :ls[k]? = some _));simp only[List.length_append] at hfl;omega),trivial⟩ ?_;refine next ⟨(k+1),(out++c16),(u19)⟩ rfl rfl ⟨rfl,rfl,trivial⟩ ⟨rfl,trivial⟩ ?_ ?_
    · (try simp only[]);omega
    exact⟨by omega,by (try simp only[]);rw[Ao_ hc17,hk2]⟩
  refine gx tv90 11 ?_;refine givec 0 rfl ?_;refine gx tv90 1 ?_;refine rt1 rfl rfl (ple ?_)
  rw[hk2,Lj_ (by omega)]
theorem grow_Item (n:Int) (hn:0<=n/\n<=100000000:=by omega):Fo Tryz.prog gb 303 [.val (.slice none 0 0), .int .i64 n] (fun u=> .val u) 9 75 ItemR.pc ([]:List ItemR):=by
  refine Vg_ tv90 Tryz.func303 rfl Tryz.ntmps303 rfl cb303 (fun _=>rfl) rfl fun w N H hG=>?_;refine gx tv90 12 ?_;refine cnd rfl (fun h1=>?_) (fun h1=>?_)
  · have p2:=dt h1
    exfalso;omega
  have p3:=df h1;refine gx tv90 7 ?_;refine q1 (qcap0 tv90 rfl rfl rfl) rfl fun w4=>?_;refine gx tv90 1 ?_;refine q1 (qlen0 tv90 rfl rfl rfl) rfl fun w5=>?_;refine gy tv90 11 ?_;refine cn rfl (fun p7=>?_) fun p13=>?_
  · refine gx tv90 3 ?_;refine q1 (qcap0 tv90 rfl rfl rfl) rfl fun w8=>?_;refine q1 (qcut0 tv90 rfl rfl rfl rfl rfl (by omega)) rfl fun w9=>?_;refine gx tv90 1 ?_;refine ef (appz (m:=((n-(0-0))).toNat) 0 tv90 rfl rfl rfl rfl rfl rfl rfl rfl rfl rfl (by omega) (by omega) (by (try simp only[]);omega) rfl rfl fun u10=>?_);refine gx tv90 1 ?_;refine q1 (qlen0 tv90 rfl rfl rfl) rfl fun w11=>?_;refine ef (ocut ItemR.pc tv90 rfl rfl rfl rfl rfl rfl (by omega) rfl fun u12=>?_);refine gx tv90 9 ?_;refine sw_val (t:=4) (i:=0) rfl rfl ?_;refine gx tv90 1 ?_;refine ro1 (j:=0) rfl rfl rfl ?_
    rfl
  refine gx tv90 8 ?_;refine sw_own (t:=4) (k:=9) (e:=75) 0 ItemR.pc rfl rfl ?_;refine sw_val (t:=4) (i:=0) rfl rfl ?_;refine gx tv90 1 ?_;refine ro1 (j:=0) rfl rfl rfl ?_
  rfl
theorem Ro_ (ls:List (List ItemR)) (hl:ls.flatten.length<=100000000:=by first|omega|(simp;done)|(simp;omega)|(simp only[List.flatten_cons,List.flatten_nil,List.length_append,List.append_nil];simp;omega)):Fn Tryz.prog gb 267 [.sl (slc ItemR.pc) ls] (.sl ItemR.pc ls.flatten):=by
  refine fC Tryz.func267 tv90 Tryz.ntmps267 fun w N H hG=>?_;have ls_l:ls.length<=140737488355328:=w.1.1;refine gx tv90 19 ?_;refine loop (ι:=Nat×Int) [0,2,9,10] [] (fun ⟨k,n⟩=>[(3, .int .i64 n),(11, .int .i64 (k:Int))]) (fun ⟨k,n⟩=>[]) (fun ⟨k,n⟩=>k<=ls.length/\n=((ls.take k).flatten.length:Int)) (fun ⟨k,n⟩=>ls.length-k) ⟨0,0⟩ ⟨rfl,rfl,trivial⟩ trivial ?_ ?_
  · exact⟨Nat.zero_le _,by simp⟩
  rintro⟨k,n⟩ hp1;obtain⟨hk1,hk2⟩:=hp1;have hg0:=Co_ ls k;refine gx tv90 6 ?_;refine cn rfl (fun p3=>?_) fun p10=>?_
  · obtain⟨c4,hc5⟩:=getE (xs:=ls) (m:=k) (by omega);refine gx tv90 6 ?_;refine q1 (qidx tv90 k rfl rfl rfl hc5 rfl rfl rfl rfl) rfl fun w6=>?_;refine go tv90 19 rfl rfl ⟨(by have hg:=Co_ ls (k+1);have hfl:=congrArg List.length (Ao_ (by assumption :ls[k]? = some _));simp only[List.length_append] at hfl;omega),trivial⟩ ?_;refine cnd rfl (fun h7=>?_) (fun h7=>?_)
    · have p8:=dt h7
      exfalso;omega
    have p9:=df h7;refine go tv90 7 rfl rfl ⟨(by have hg:=Co_ ls (k+1);have hfl:=congrArg List.length (Ao_ (by assumption :ls[k]? = some _));simp only[List.length_append] at hfl;omega),trivial⟩ ?_;refine next ⟨(k+1),(n+(c4.length:Int))⟩ rfl rfl ⟨rfl,rfl,trivial⟩ trivial ?_ ?_
    · (try simp only[]);omega
    have hf:=Ao_ hc5;have hg:=Co_ ls (k+1);have hfl:=congrArg List.length hf
    simp only[List.length_append] at hfl
    exact⟨by omega,by (try simp only[]);omega⟩
  refine gx tv90 8 ?_;refine ef (ecallo 0 (grow_Item _) rfl rfl fun u12 w11=>?_);refine gx tv90 12 ?_;refine sw_osl (t:=6) 0 rfl rfl ?_;refine loop (ι:=Nat×(List ItemR)×Value) [0,2,3,9,10,11,12,23,24,25,26] [] (fun ⟨k,out,u_out⟩=>[(6, .osl 0),(27, .int .i64 (k:Int))]) (fun ⟨k,out,u_out⟩=>[(0, .arr u_out 9 75 ItemR.pc out)]) (fun ⟨k,out,u_out⟩=>k<=ls.length/\out=(ls.take k).flatten) (fun ⟨k,out,u_out⟩=>ls.length-k) ⟨0,([]:List ItemR),(u12)⟩ ⟨rfl,rfl,trivial⟩ ⟨rfl,trivial⟩ ?_ ?_
  · exact⟨Nat.zero_le _,by simp⟩
  rintro⟨k,out,u_out⟩ hp13;obtain⟨hk1,hk2⟩:=hp13;refine gx tv90 6 ?_;refine cn rfl (fun p15=>?_) fun p20=>?_
  · obtain⟨c16,hc17⟩:=getE (xs:=ls) (m:=k) (by omega);refine gx tv90 6 ?_;refine q1 (qidx tv90 k rfl rfl rfl hc17 rfl rfl rfl rfl) rfl fun w18=>?_;refine gx tv90 7 ?_;refine ef (app tv90 c16 rfl rfl rfl rfl rfl rfl rfl rfl rfl (src_l rfl (fun _=>rfl)) (by have hg:=Co_ ls (k+1);have hfl:=congrArg List.length (Ao_ (by assumption :ls[k]? = some _));simp only[List.length_append] at hfl;subst hk2;(try simp only[]);omega) rfl fun u19=>?_);refine go tv90 8 rfl rfl ⟨(by have hg:=Co_ ls (k+1);have hfl:=congrArg List.length (Ao_ (by assumption :ls[k]? = some _));simp only[List.length_append] at hfl;omega),trivial⟩ ?_;refine next ⟨(k+1),(out++c16),(u19)⟩ rfl rfl ⟨rfl,rfl,trivial⟩ ⟨rfl,trivial⟩ ?_ ?_
    · (try simp only[]);omega
    exact⟨by omega,by (try simp only[]);rw[Ao_ hc17,hk2]⟩
  refine gx tv90 11 ?_;refine givec 0 rfl ?_;refine gx tv90 1 ?_;refine rt1 rfl rfl (ple ?_)
  rw[hk2,Lj_ (by omega)]
theorem Rx_ (s:List ItemR) (f:FuncId) (f_fst f_cap:List PV) (f_p:ItemR->Bool) (f_h:∀ x,Fn Tryz.prog gb f (argsP.apL f_fst ((.agg (ItemR.pc x))::f_cap)) (.bool (f_p x))):Fn Tryz.prog gb 300 [.sl ItemR.pc s, .fn f f_fst f_cap] (.int .i64 (idxP f_p s)):=by
  refine fC Tryz.func300 tv90 Tryz.ntmps300 fun w N H hG=>?_;have s_l:s.length<=140737488355328:=w.1.1;refine gx tv90 14 ?_;refine loop (ι:=Nat) [0,1,6,7] [] (fun k=>[(8, .int .i64 (k:Int))]) (fun k=>[]) (fun k=>k<=s.length/\idxP f_p s=idxF f_p k (s.drop k)) (fun k=>s.length-k) 0 ⟨rfl,trivial⟩ trivial ?_ ?_
  · exact⟨Nat.zero_le _,rfl⟩
  rintro k hp1;obtain⟨hk1,hk2⟩:=hp1;refine gx tv90 6 ?_;refine cnd rfl (fun h2=>?_) (fun h2=>?_)
  · have p3:=dt h2;obtain⟨c4,hc5⟩:=getE (xs:=s) (m:=k) (by omega);refine gx tv90 15 ?_;refine q1 (qidx tv90 k rfl rfl rfl hc5 rfl rfl rfl rfl) rfl fun w6=>?_;refine gx tv90 1 ?_;refine call (f_h c4) rfl rfl fun w7=>?_;refine gx tv90 2 ?_;refine cnd rfl (fun h8=>?_) (fun h8=>?_)
    · refine gx tv90 12 ?_;refine rt1 rfl rfl (ple ?_);exact congrArg (PV.int .i64) (L1_ hk2 (C4_ hc5) (by assumption)).symm
    refine gy tv90 7 ?_;refine next (k+1) rfl rfl ⟨rfl,trivial⟩ trivial ?_ ?_
    · omega
    exact⟨by omega,Jw_ hk2 (C4_ hc5) (by assumption)⟩
  have p9:=df h2;refine gx tv90 11 ?_;refine rt1 rfl rfl (ple ?_);exact congrArg (PV.int .i64) (L0_ hk2 (by omega)).symm
theorem grow_row (n:Int) (hn:0<=n/\n<=100000000:=by omega):Fo Tryz.prog gb 255 [.val (.slice none 0 0), .int .i64 n] (fun u=> .val u) 5 242 RowR.pc ([]:List RowR):=by
  refine Vg_ tv90 Tryz.func255 rfl Tryz.ntmps255 rfl cb255 (fun _=>rfl) rfl fun w N H hG=>?_;refine gx tv90 12 ?_;refine cnd rfl (fun h1=>?_) (fun h1=>?_)
  · have p2:=dt h1
    exfalso;omega
  have p3:=df h1;refine gx tv90 7 ?_;refine q1 (qcap0 tv90 rfl rfl rfl) rfl fun w4=>?_;refine gx tv90 1 ?_;refine q1 (qlen0 tv90 rfl rfl rfl) rfl fun w5=>?_;refine gy tv90 11 ?_;refine cn rfl (fun p7=>?_) fun p13=>?_
  · refine gx tv90 3 ?_;refine q1 (qcap0 tv90 rfl rfl rfl) rfl fun w8=>?_;refine q1 (qcut0 tv90 rfl rfl rfl rfl rfl (by omega)) rfl fun w9=>?_;refine gx tv90 1 ?_;refine ef (appz (m:=((n-(0-0))).toNat) 0 tv90 rfl rfl rfl rfl rfl rfl rfl rfl rfl rfl (by omega) (by omega) (by (try simp only[]);omega) rfl rfl fun u10=>?_);refine gx tv90 1 ?_;refine q1 (qlen0 tv90 rfl rfl rfl) rfl fun w11=>?_;refine ef (ocut RowR.pc tv90 rfl rfl rfl rfl rfl rfl (by omega) rfl fun u12=>?_);refine gx tv90 9 ?_;refine sw_val (t:=4) (i:=0) rfl rfl ?_;refine gx tv90 1 ?_;refine ro1 (j:=0) rfl rfl rfl ?_
    rfl
  refine gx tv90 8 ?_;refine sw_own (t:=4) (k:=5) (e:=242) 0 RowR.pc rfl rfl ?_;refine sw_val (t:=4) (i:=0) rfl rfl ?_;refine gx tv90 1 ?_;refine ro1 (j:=0) rfl rfl rfl ?_
  rfl
theorem T5_ (ls:List (List RowR)) (hl:ls.flatten.length<=100000000:=by first|omega|(simp;done)|(simp;omega)|(simp only[List.flatten_cons,List.flatten_nil,List.length_append,List.append_nil];simp;omega)):Fn Tryz.prog gb 195 [.sl (slc RowR.pc) ls] (.sl RowR.pc ls.flatten):=by
  refine fC Tryz.func195 tv90 Tryz.ntmps195 fun w N H hG=>?_;have ls_l:ls.length<=140737488355328:=w.1.1;refine gx tv90 19 ?_;refine loop (ι:=Nat×Int) [0,2,9,10] [] (fun ⟨k,n⟩=>[(3, .int .i64 n),(11, .int .i64 (k:Int))]) (fun ⟨k,n⟩=>[]) (fun ⟨k,n⟩=>k<=ls.length/\n=((ls.take k).flatten.length:Int)) (fun ⟨k,n⟩=>ls.length-k) ⟨0,0⟩ ⟨rfl,rfl,trivial⟩ trivial ?_ ?_
  · exact⟨Nat.zero_le _,by simp⟩
  rintro⟨k,n⟩ hp1;obtain⟨hk1,hk2⟩:=hp1;have hg0:=Co_ ls k;refine gx tv90 6 ?_;refine cn rfl (fun p3=>?_) fun p10=>?_
  · obtain⟨c4,hc5⟩:=getE (xs:=ls) (m:=k) (by omega);refine gx tv90 6 ?_;refine q1 (qidx tv90 k rfl rfl rfl hc5 rfl rfl rfl rfl) rfl fun w6=>?_;refine go tv90 19 rfl rfl ⟨(by have hg:=Co_ ls (k+1);have hfl:=congrArg List.length (Ao_ (by assumption :ls[k]? = some _));simp only[List.length_append] at hfl;omega),trivial⟩ ?_;refine cnd rfl (fun h7=>?_) (fun h7=>?_)
    · have p8:=dt h7
      exfalso;omega
    have p9:=df h7;refine go tv90 7 rfl rfl ⟨(by have hg:=Co_ ls (k+1);have hfl:=congrArg List.length (Ao_ (by assumption :ls[k]? = some _));simp only[List.length_append] at hfl;omega),trivial⟩ ?_;refine next ⟨(k+1),(n+(c4.length:Int))⟩ rfl rfl ⟨rfl,rfl,trivial⟩ trivial ?_ ?_
    · (try simp only[]);omega
    have hf:=Ao_ hc5;have hg:=Co_ ls (k+1);have hfl:=congrArg List.length hf
    simp only[List.length_append] at hfl
    exact⟨by omega,by (try simp only[]);omega⟩
  refine gx tv90 8 ?_;refine ef (ecallo 0 (grow_row _) rfl rfl fun u12 w11=>?_);refine gx tv90 12 ?_;refine sw_osl (t:=6) 0 rfl rfl ?_;refine loop (ι:=Nat×(List RowR)×Value) [0,2,3,9,10,11,12,23,24,25,26] [] (fun ⟨k,out,u_out⟩=>[(6, .osl 0),(27, .int .i64 (k:Int))]) (fun ⟨k,out,u_out⟩=>[(0, .arr u_out 5 242 RowR.pc out)]) (fun ⟨k,out,u_out⟩=>k<=ls.length/\out=(ls.take k).flatten) (fun ⟨k,out,u_out⟩=>ls.length-k) ⟨0,([]:List RowR),(u12)⟩ ⟨rfl,rfl,trivial⟩ ⟨rfl,trivial⟩ ?_ ?_
  · exact⟨Nat.zero_le _,by simp⟩
  rintro⟨k,out,u_out⟩ hp13;obtain⟨hk1,hk2⟩:=hp13;refine gx tv90 6 ?_;refine cn rfl (fun p15=>?_) fun p20=>?_
  · obtain⟨c16,hc17⟩:=getE (xs:=ls) (m:=k) (by omega);refine gx tv90 6 ?_;refine q1 (qidx tv90 k rfl rfl rfl hc17 rfl rfl rfl rfl) rfl fun w18=>?_;refine gx tv90 7 ?_;refine ef (app tv90 c16 rfl rfl rfl rfl rfl rfl rfl rfl rfl (src_l rfl (fun _=>rfl)) (by have hg:=Co_ ls (k+1);have hfl:=congrArg List.length (Ao_ (by assumption :ls[k]? = some _));simp only[List.length_append] at hfl;subst hk2;(try simp only[]);omega) rfl fun u19=>?_);refine go tv90 8 rfl rfl ⟨(by have hg:=Co_ ls (k+1);have hfl:=congrArg List.length (Ao_ (by assumption :ls[k]? = some _));simp only[List.length_append] at hfl;omega),trivial⟩ ?_;refine next ⟨(k+1),(out++c16),(u19)⟩ rfl rfl ⟨rfl,rfl,trivial⟩ ⟨rfl,trivial⟩ ?_ ?_
    · (try simp only[]);omega
    exact⟨by omega,by (try simp only[]);rw[Ao_ hc17,hk2]⟩
  refine gx tv90 11 ?_;refine givec 0 rfl ?_;refine gx tv90 1 ?_;refine rt1 rfl rfl (ple ?_)
  rw[hk2,Lj_ (by omega)]
theorem idxF_row (s:List RowR) (f:FuncId) (f_fst f_cap:List PV) (f_p:RowR->Bool) (f_h:∀ x,Fn Tryz.prog gb f (argsP.apL f_fst ((.agg (RowR.pc x))::f_cap)) (.bool (f_p x))):Fn Tryz.prog gb 253 [.sl RowR.pc s, .fn f f_fst f_cap] (.int .i64 (idxP f_p s)):=by
  refine fC Tryz.func253 tv90 Tryz.ntmps253 fun w N H hG=>?_;have s_l:s.length<=140737488355328:=w.1.1;refine gx tv90 14 ?_;refine loop (ι:=Nat) [0,1,6,7] [] (fun k=>[(8, .int .i64 (k:Int))]) (fun k=>[]) (fun k=>k<=s.length/\idxP f_p s=idxF f_p k (s.drop k)) (fun k=>s.length-k) 0 ⟨rfl,trivial⟩ trivial ?_ ?_
  · exact⟨Nat.zero_le _,rfl⟩
  rintro k hp1;obtain⟨hk1,hk2⟩:=hp1;refine gx tv90 6 ?_;refine cnd rfl (fun h2=>?_) (fun h2=>?_)
  · have p3:=dt h2;obtain⟨c4,hc5⟩:=getE (xs:=s) (m:=k) (by omega);refine gx tv90 15 ?_;refine q1 (qidx tv90 k rfl rfl rfl hc5 rfl rfl rfl rfl) rfl fun w6=>?_;refine gx tv90 1 ?_;refine call (f_h c4) rfl rfl fun w7=>?_;refine gx tv90 2 ?_;refine cnd rfl (fun h8=>?_) (fun h8=>?_)
    · refine gx tv90 12 ?_;refine rt1 rfl rfl (ple ?_);exact congrArg (PV.int .i64) (L1_ hk2 (C4_ hc5) (by assumption)).symm
    refine gy tv90 7 ?_;refine next (k+1) rfl rfl ⟨rfl,trivial⟩ trivial ?_ ?_
    · omega
    exact⟨by omega,Jw_ hk2 (C4_ hc5) (by assumption)⟩
  have p9:=df h2;refine gx tv90 11 ?_;refine rt1 rfl rfl (ple ?_);exact congrArg (PV.int .i64) (L0_ hk2 (by omega)).symm
theorem grow_Mail (n:Int) (hn:0<=n/\n<=100000000:=by omega):Fo Tryz.prog gb 323 [.val (.slice none 0 0), .int .i64 n] (fun u=> .val u) 7 71 Mail.pc ([]:List Mail):=by
  refine Vg_ tv90 Tryz.func323 rfl Tryz.ntmps323 rfl cb323 (fun _=>rfl) rfl fun w N H hG=>?_;refine gx tv90 12 ?_;refine cnd rfl (fun h1=>?_) (fun h1=>?_)
  · have p2:=dt h1
    exfalso;omega
  have p3:=df h1;refine gx tv90 7 ?_;refine q1 (qcap0 tv90 rfl rfl rfl) rfl fun w4=>?_;refine gx tv90 1 ?_;refine q1 (qlen0 tv90 rfl rfl rfl) rfl fun w5=>?_;refine gy tv90 11 ?_;refine cn rfl (fun p7=>?_) fun p13=>?_
  · refine gx tv90 3 ?_;refine q1 (qcap0 tv90 rfl rfl rfl) rfl fun w8=>?_;refine q1 (qcut0 tv90 rfl rfl rfl rfl rfl (by omega)) rfl fun w9=>?_;refine gx tv90 1 ?_;refine ef (appz (m:=((n-(0-0))).toNat) 0 tv90 rfl rfl rfl rfl rfl rfl rfl rfl rfl rfl (by omega) (by omega) (by (try simp only[]);omega) rfl rfl fun u10=>?_);refine gx tv90 1 ?_;refine q1 (qlen0 tv90 rfl rfl rfl) rfl fun w11=>?_;refine ef (ocut Mail.pc tv90 rfl rfl rfl rfl rfl rfl (by omega) rfl fun u12=>?_);refine gx tv90 9 ?_;refine sw_val (t:=4) (i:=0) rfl rfl ?_;refine gx tv90 1 ?_;refine ro1 (j:=0) rfl rfl rfl ?_
    rfl
  refine gx tv90 8 ?_;refine sw_own (t:=4) (k:=7) (e:=71) 0 Mail.pc rfl rfl ?_;refine sw_val (t:=4) (i:=0) rfl rfl ?_;refine gx tv90 1 ?_;refine ro1 (j:=0) rfl rfl rfl ?_
  rfl
theorem Y6_ (ls:List (List Mail)) (hl:ls.flatten.length<=100000000:=by first|omega|(simp;done)|(simp;omega)|(simp only[List.flatten_cons,List.flatten_nil,List.length_append,List.append_nil];simp;omega)):Fn Tryz.prog gb 299 [.sl (slc Mail.pc) ls] (.sl Mail.pc ls.flatten):=by
  refine fC Tryz.func299 tv90 Tryz.ntmps299 fun w N H hG=>?_;have ls_l:ls.length<=140737488355328:=w.1.1;refine gx tv90 19 ?_;refine loop (ι:=Nat×Int) [0,2,9,10] [] (fun ⟨k,n⟩=>[(3, .int .i64 n),(11, .int .i64 (k:Int))]) (fun ⟨k,n⟩=>[]) (fun ⟨k,n⟩=>k<=ls.length/\n=((ls.take k).flatten.length:Int)) (fun ⟨k,n⟩=>ls.length-k) ⟨0,0⟩ ⟨rfl,rfl,trivial⟩ trivial ?_ ?_
  · exact⟨Nat.zero_le _,by simp⟩
  rintro⟨k,n⟩ hp1;obtain⟨hk1,hk2⟩:=hp1;have hg0:=Co_ ls k;refine gx tv90 6 ?_;refine cn rfl (fun p3=>?_) fun p10=>?_
  · obtain⟨c4,hc5⟩:=getE (xs:=ls) (m:=k) (by omega);refine gx tv90 6 ?_;refine q1 (qidx tv90 k rfl rfl rfl hc5 rfl rfl rfl rfl) rfl fun w6=>?_;refine go tv90 19 rfl rfl ⟨(by have hg:=Co_ ls (k+1);have hfl:=congrArg List.length (Ao_ (by assumption :ls[k]? = some _));simp only[List.length_append] at hfl;omega),trivial⟩ ?_;refine cnd rfl (fun h7=>?_) (fun h7=>?_)
    · have p8:=dt h7
      exfalso;omega
    have p9:=df h7;refine go tv90 7 rfl rfl ⟨(by have hg:=Co_ ls (k+1);have hfl:=congrArg List.length (Ao_ (by assumption :ls[k]? = some _));simp only[List.length_append] at hfl;omega),trivial⟩ ?_;refine next ⟨(k+1),(n+(c4.length:Int))⟩ rfl rfl ⟨rfl,rfl,trivial⟩ trivial ?_ ?_
    · (try simp only[]);omega
    have hf:=Ao_ hc5;have hg:=Co_ ls (k+1);have hfl:=congrArg List.length hf
    simp only[List.length_append] at hfl
    exact⟨by omega,by (try simp only[]);omega⟩
  refine gx tv90 8 ?_;refine ef (ecallo 0 (grow_Mail _) rfl rfl fun u12 w11=>?_);refine gx tv90 12 ?_;refine sw_osl (t:=6) 0 rfl rfl ?_;refine loop (ι:=Nat×(List Mail)×Value) [0,2,3,9,10,11,12,23,24,25,26] [] (fun ⟨k,out,u_out⟩=>[(6, .osl 0),(27, .int .i64 (k:Int))]) (fun ⟨k,out,u_out⟩=>[(0, .arr u_out 7 71 Mail.pc out)]) (fun ⟨k,out,u_out⟩=>k<=ls.length/\out=(ls.take k).flatten) (fun ⟨k,out,u_out⟩=>ls.length-k) ⟨0,([]:List Mail),(u12)⟩ ⟨rfl,rfl,trivial⟩ ⟨rfl,trivial⟩ ?_ ?_
  · exact⟨Nat.zero_le _,by simp⟩
  rintro⟨k,out,u_out⟩ hp13;obtain⟨hk1,hk2⟩:=hp13;refine gx tv90 6 ?_;refine cn rfl (fun p15=>?_) fun p20=>?_
  · obtain⟨c16,hc17⟩:=getE (xs:=ls) (m:=k) (by omega);refine gx tv90 6 ?_;refine q1 (qidx tv90 k rfl rfl rfl hc17 rfl rfl rfl rfl) rfl fun w18=>?_;refine gx tv90 7 ?_;refine ef (app tv90 c16 rfl rfl rfl rfl rfl rfl rfl rfl rfl (src_l rfl (fun _=>rfl)) (by have hg:=Co_ ls (k+1);have hfl:=congrArg List.length (Ao_ (by assumption :ls[k]? = some _));simp only[List.length_append] at hfl;subst hk2;(try simp only[]);omega) rfl fun u19=>?_);refine go tv90 8 rfl rfl ⟨(by have hg:=Co_ ls (k+1);have hfl:=congrArg List.length (Ao_ (by assumption :ls[k]? = some _));simp only[List.length_append] at hfl;omega),trivial⟩ ?_;refine next ⟨(k+1),(out++c16),(u19)⟩ rfl rfl ⟨rfl,rfl,trivial⟩ ⟨rfl,trivial⟩ ?_ ?_
    · (try simp only[]);omega
    exact⟨by omega,by (try simp only[]);rw[Ao_ hc17,hk2]⟩
  refine gx tv90 11 ?_;refine givec 0 rfl ?_;refine gx tv90 1 ?_;refine rt1 rfl rfl (ple ?_)
  rw[hk2,Lj_ (by omega)]
theorem index_int (l:List Int) (x:Int):Fn Tryz.prog gb 348 [.sl i64c l, .int .i64 x] (.int .i64 (idxP (fun y=>decide (x=y)) l)):=by
  refine fC Tryz.func348 tv90 Tryz.ntmps348 fun w N H hG=>?_;have l_l:l.length<=140737488355328:=w.1.1;have x_r:-9223372036854775808<=x/\x<=9223372036854775807:=w.2.1;refine gx tv90 14 ?_;refine loop (ι:=Nat) [0,1,6,7] [] (fun k=>[(8, .int .i64 (k:Int))]) (fun k=>[]) (fun k=>k<=l.length/\idxP (fun y=>decide (x=y)) l=idxF (fun y=>decide (x=y)) k (l.drop k)) (fun k=>l.length-k) 0 ⟨rfl,trivial⟩ trivial ?_ ?_
  · exact⟨Nat.zero_le _,rfl⟩
  rintro k hp1;obtain⟨hik1,hik2⟩:=hp1;refine gx tv90 6 ?_;refine cn rfl (fun p3=>?_) fun p10=>?_
  · obtain⟨c4,hc5⟩:=getE (xs:=l) (m:=k) (by omega);refine gx tv90 15 ?_;refine q1 (qidx tv90 k rfl rfl rfl hc5 rfl rfl rfl rfl) rfl fun w6=>?_;refine gx tv90 4 ?_;refine cn rfl (fun p8=>?_) fun p9=>?_
    · refine gx tv90 12 ?_;refine rt1 rfl rfl (ple ?_);exact congrArg (PV.int .i64) (L1_ hik2 (C4_ hc5) (by first|assumption|(simp[*];done))).symm
    refine gy tv90 7 ?_;refine next (k+1) rfl rfl ⟨rfl,trivial⟩ trivial ?_ ?_
    · omega
    exact⟨by omega,Jw_ hik2 (C4_ hc5) (by first|assumption|(simp[*];done)|grind)⟩
  refine gx tv90 11 ?_;refine rt1 rfl rfl (ple ?_);exact congrArg (PV.int .i64) (L0_ hik2 (by omega)).symm
theorem idxF_Shop (s:List ShopR) (f:FuncId) (f_fst f_cap:List PV) (f_p:ShopR->Bool) (f_h:∀ x,Fn Tryz.prog gb f (argsP.apL f_fst ((.agg (ShopR.pc x))::f_cap)) (.bool (f_p x))):Fn Tryz.prog gb 220 [.sl ShopR.pc s, .fn f f_fst f_cap] (.int .i64 (idxP f_p s)):=by
  refine fC Tryz.func220 tv90 Tryz.ntmps220 fun w N H hG=>?_;have s_l:s.length<=140737488355328:=w.1.1;refine gx tv90 14 ?_;refine loop (ι:=Nat) [0,1,6,7] [] (fun k=>[(8, .int .i64 (k:Int))]) (fun k=>[]) (fun k=>k<=s.length/\idxP f_p s=idxF f_p k (s.drop k)) (fun k=>s.length-k) 0 ⟨rfl,trivial⟩ trivial ?_ ?_
  · exact⟨Nat.zero_le _,rfl⟩
  rintro k hp1;obtain⟨hk1,hk2⟩:=hp1;refine gx tv90 6 ?_;refine cnd rfl (fun h2=>?_) (fun h2=>?_)
  · have p3:=dt h2;obtain⟨c4,hc5⟩:=getE (xs:=s) (m:=k) (by omega);have c4_w:=ShopR.pwf (w.1.2 c4 (List.mem_of_getElem? hc5));refine gx tv90 15 ?_;refine q1 (qidx tv90 k rfl rfl rfl hc5 rfl rfl rfl rfl) rfl fun w6=>?_;refine gx tv90 1 ?_;refine call (f_h c4) rfl rfl fun w7=>?_;refine gx tv90 2 ?_;refine cnd rfl (fun h8=>?_) (fun h8=>?_)
    · refine gx tv90 12 ?_;refine rt1 rfl rfl (ple ?_);exact congrArg (PV.int .i64) (L1_ hk2 (C4_ hc5) (by assumption)).symm
    refine gy tv90 7 ?_;refine next (k+1) rfl rfl ⟨rfl,trivial⟩ trivial ?_ ?_
    · omega
    exact⟨by omega,Jw_ hk2 (C4_ hc5) (by assumption)⟩
  have p9:=df h2;refine gx tv90 11 ?_;refine rt1 rfl rfl (ple ?_);exact congrArg (PV.int .i64) (L0_ hk2 (by omega)).symm
theorem Y5_ (s:List PlaceR) (hl:s.length<=100000000:=by first|omega|(simp;done)|(simp;omega)):Fn Tryz.prog gb 103 [.sl PlaceR.pc s] (.sl PlaceR.pc s):=by
  refine fC Tryz.func103 tv90 Tryz.ntmps103 fun w N H hG=>?_;refine gx tv90 9 ?_;refine ef (lnil tv90 rfl rfl rfl rfl rfl fun b1 hb2=>?_);refine gx tv90 2 ?_;refine cnd rfl (fun h3=>?_) (fun h3=>?_)
  · refine gx tv90 7 ?_;refine rt1 rfl rfl ?_;refine K3_ ?_;exact hb2 (by assumption)
  refine gx tv90 4 ?_;refine ef (bsl 0 PlaceR.pc [] tv90 rfl rfl rfl rfl rfl (fun _=>rfl) rfl (by decide) (by decide) rfl fun u4=>?_);refine gx tv90 1 ?_;refine ef (app tv90 s rfl rfl rfl rfl rfl rfl rfl rfl rfl (src_l rfl (fun _=>rfl)) (by first|omega|(simp;omega)) rfl fun u5=>?_);refine gx tv90 3 ?_;refine givec 0 rfl ?_;refine gx tv90 1 ?_;refine rt1 rfl rfl (ple ?_)
  simp
theorem Y4_ (s:List GrantR) (hl:s.length<=100000000:=by first|omega|(simp;done)|(simp;omega)):Fn Tryz.prog gb 105 [.sl GrantR.pc s] (.sl GrantR.pc s):=by
  refine fC Tryz.func105 tv90 Tryz.ntmps105 fun w N H hG=>?_;refine gx tv90 9 ?_;refine ef (lnil tv90 rfl rfl rfl rfl rfl fun b1 hb2=>?_);refine gx tv90 2 ?_;refine cnd rfl (fun h3=>?_) (fun h3=>?_)
  · refine gx tv90 7 ?_;refine rt1 rfl rfl ?_;refine K3_ ?_;exact hb2 (by assumption)
  refine gx tv90 4 ?_;refine ef (bsl 0 GrantR.pc [] tv90 rfl rfl rfl rfl rfl (fun _=>rfl) rfl (by decide) (by decide) rfl fun u4=>?_);refine gx tv90 1 ?_;refine ef (app tv90 s rfl rfl rfl rfl rfl rfl rfl rfl rfl (src_l rfl (fun _=>rfl)) (by first|omega|(simp;omega)) rfl fun u5=>?_);refine gx tv90 3 ?_;refine givec 0 rfl ?_;refine gx tv90 1 ?_;refine rt1 rfl rfl (ple ?_)
  simp
theorem clone_Note (s:List NoteR) (hl:s.length<=100000000:=by first|omega|(simp;done)|(simp;omega)):Fn Tryz.prog gb 148 [.sl NoteR.pc s] (.sl NoteR.pc s):=by
  refine fC Tryz.func148 tv90 Tryz.ntmps148 fun w N H hG=>?_;refine gx tv90 9 ?_;refine ef (lnil tv90 rfl rfl rfl rfl rfl fun b1 hb2=>?_);refine gx tv90 2 ?_;refine cnd rfl (fun h3=>?_) (fun h3=>?_)
  · refine gx tv90 7 ?_;refine rt1 rfl rfl ?_;refine K3_ ?_;exact hb2 (by assumption)
  refine gx tv90 4 ?_;refine ef (bsl 0 NoteR.pc [] tv90 rfl rfl rfl rfl rfl (fun _=>rfl) rfl (by decide) (by decide) rfl fun u4=>?_);refine gx tv90 1 ?_;refine ef (app tv90 s rfl rfl rfl rfl rfl rfl rfl rfl rfl (src_l rfl (fun _=>rfl)) (by first|omega|(simp;omega)) rfl fun u5=>?_);refine gx tv90 3 ?_;refine givec 0 rfl ?_;refine gx tv90 1 ?_;refine rt1 rfl rfl (ple ?_)
  simp
theorem N3_ (s:List ItemR) (hl:s.length<=100000:=by first|omega|(simp;omega)|decide +kernel):Fo Tryz.prog gb 271 [.sl ItemR.pc s] (fun u=> .val u) 9 75 ItemR.pc s:=by
  refine Vg_ tv90 Tryz.func271 rfl Tryz.ntmps271 rfl cb271 (fun _=>rfl) rfl fun w N H hG=>?_;refine gx tv90 9 ?_;refine ef (lnil tv90 rfl rfl rfl rfl rfl fun b1 hb2=>?_);refine gx tv90 2 ?_;refine cnd rfl (fun h3=>?_) (fun h3=>?_)
  · refine gx tv90 5 ?_;refine sw_own (t:=2) (k:=9) (e:=75) 0 ItemR.pc rfl rfl ?_;refine sw_val (t:=2) (i:=0) rfl rfl ?_;refine gx tv90 2 ?_;refine ro1 (j:=0) rfl rfl rfl ?_
    first|(exact (hb2 (by assumption)).symm)|(exact hb2 (by assumption))|simp
  refine gx tv90 4 ?_;refine ef (bsl 0 ItemR.pc [] tv90 rfl rfl rfl rfl rfl (fun _=>rfl) rfl (by decide) (by decide) rfl fun u4=>?_);refine gx tv90 1 ?_;refine ef (app tv90 s rfl rfl rfl rfl rfl rfl rfl rfl rfl (src_l rfl (fun _=>rfl)) (by first|omega|(simp;omega)) rfl fun u5=>?_);refine gx tv90 3 ?_;refine sw_val (t:=2) (i:=0) rfl rfl ?_;refine gx tv90 1 ?_;refine ro1 (j:=0) rfl rfl rfl ?_
  first|(exact (hb2 (by assumption)).symm)|(exact hb2 (by assumption))|simp
theorem oclone_row (s:List RowR) (hl:s.length<=100000:=by first|omega|(simp;omega)|decide +kernel):Fo Tryz.prog gb 212 [.sl RowR.pc s] (fun u=> .val u) 5 242 RowR.pc s:=by
  refine Vg_ tv90 Tryz.func212 rfl Tryz.ntmps212 rfl cb212 (fun _=>rfl) rfl fun w N H hG=>?_;refine gx tv90 9 ?_;refine ef (lnil tv90 rfl rfl rfl rfl rfl fun b1 hb2=>?_);refine gx tv90 2 ?_;refine cnd rfl (fun h3=>?_) (fun h3=>?_)
  · refine gx tv90 5 ?_;refine sw_own (t:=2) (k:=5) (e:=242) 0 RowR.pc rfl rfl ?_;refine sw_val (t:=2) (i:=0) rfl rfl ?_;refine gx tv90 2 ?_;refine ro1 (j:=0) rfl rfl rfl ?_
    first|(exact (hb2 (by assumption)).symm)|(exact hb2 (by assumption))|simp
  refine gx tv90 4 ?_;refine ef (bsl 0 RowR.pc [] tv90 rfl rfl rfl rfl rfl (fun _=>rfl) rfl (by decide) (by decide) rfl fun u4=>?_);refine gx tv90 1 ?_;refine ef (app tv90 s rfl rfl rfl rfl rfl rfl rfl rfl rfl (src_l rfl (fun _=>rfl)) (by first|omega|(simp;omega)) rfl fun u5=>?_);refine gx tv90 3 ?_;refine sw_val (t:=2) (i:=0) rfl rfl ?_;refine gx tv90 1 ?_;refine ro1 (j:=0) rfl rfl rfl ?_
  first|(exact (hb2 (by assumption)).symm)|(exact hb2 (by assumption))|simp
theorem clone_int (s:List Int) (hl:s.length<=100000000:=by first|omega|(simp;done)|(simp;omega)):Fn Tryz.prog gb 104 [.sl i64c s] (.sl i64c s):=by
  refine fC Tryz.func104 tv90 Tryz.ntmps104 fun w N H hG=>?_;refine gx tv90 9 ?_;refine ef (lnil tv90 rfl rfl rfl rfl rfl fun b1 hb2=>?_);refine gx tv90 2 ?_;refine cnd rfl (fun h3=>?_) (fun h3=>?_)
  · refine gx tv90 7 ?_;refine rt1 rfl rfl ?_;refine K3_ ?_;exact hb2 (by assumption)
  refine gx tv90 4 ?_;refine ef (bsl 0 i64c [] tv90 rfl rfl rfl rfl rfl (fun _=>rfl) rfl (by decide) (by decide) rfl fun u4=>?_);refine gx tv90 1 ?_;refine ef (app tv90 s rfl rfl rfl rfl rfl rfl rfl rfl rfl (src_l rfl (fun _=>rfl)) (by first|omega|(simp;omega)) rfl fun u5=>?_);refine gx tv90 3 ?_;refine givec 0 rfl ?_;refine gx tv90 1 ?_;refine rt1 rfl rfl (ple ?_)
  simp
def tbv91:Tb:=[(3,ty3),(9,ty9),(22,ty22),(24,ty24),(31,ty31),(33,ty33),(35,ty35),(51,ty51),(53,ty53),(71,ty71),(75,ty75),(127,Tq_),(129,Oj_),(238,ty238),(240,Wh_),(322,ty322)]
theorem tv91:tbB Tryz.prog tbv91=true:=by kernel_rfl
theorem Gw_ (p:PolicyR) (from_:Int) (to_:Int):Fn Tryz.prog gb 125 [.agg (PolicyR.pc p), .int .i64 from_, .int .i64 to_] (.bool (Fa_ p from_ to_)):=by
  refine fC Tryz.func125 tv91 Tryz.ntmps125 fun w N H hG=>?_;have e0:=Fa_.eq_1 p from_ to_;refine gm tv91 7 [0] fun B2=>?_;refine aN [1,2,3,4,5,6] 29 mixd ?_;refine gX tv91 [0,1,2,3,4,5] 23 ?_;refine vcallg 6 rfl (by kernel_rfl) rfl (fun hc=>(D1_ _ _)) rfl rfl ⟨(fun hc=>hc),(fun hc=>hc),trivial⟩ rfl fun _=>?_;refine gXy tv91 [7,8,9,10] 18 ?_;refine vcallg 11 rfl (by kernel_rfl) rfl (fun hc=>(D1_ _ _)) rfl rfl ⟨(fun hc=>hc),(fun hc=>hc),trivial⟩ rfl fun _=>?_;refine gXy tv91 [12,13,14,15,16] 12 ?_;refine vqg 17 [22,23] rfl (by kernel_rfl) rfl rfl (fun hc=>qidx tv91 (from_).toNat rfl rfl (by simp only[gOf,Am_,Cn_,Bool.and_eq_true,Bool.or_eq_true,Bool.not_eq_true',decide_eq_true_eq,decide_eq_false_iff_not,cond_true,cond_false] at hc;omega) (getG (by simp only[gOf,Am_,Cn_,Bool.and_eq_true,Bool.or_eq_true,Bool.not_eq_true',decide_eq_true_eq,decide_eq_false_iff_not,cond_true,cond_false] at hc;omega)) rfl rfl rfl rfl) ⟨(fun hc=>hc),(fun hc=>hc),trivial⟩ rfl fun _=>?_;refine gXy tv91 [18,19,20,21,22] 6 ?_;refine vqg 23 [28,29] rfl (by kernel_rfl) rfl rfl (fun hc=>qidx tv91 (to_).toNat rfl rfl (by simp only[gOf,Am_,Cn_,Bool.and_eq_true,Bool.or_eq_true,Bool.not_eq_true',decide_eq_true_eq,decide_eq_false_iff_not,cond_true,cond_false] at hc;omega) (getG (by simp only[gOf,Am_,Cn_,Bool.and_eq_true,Bool.or_eq_true,Bool.not_eq_true',decide_eq_true_eq,decide_eq_false_iff_not,cond_true,cond_false] at hc;omega)) rfl rfl rfl rfl) ⟨(fun hc=>hc),(fun hc=>hc),trivial⟩ rfl fun _=>?_;refine gXy tv91 [24,25] 3 ?_;refine vcallg 26 rfl (by kernel_rfl) rfl (fun hc=>(Go_ _ _)) rfl rfl ⟨(fun hc=>hc),(fun hc=>hc),trivial⟩ rfl fun _=>?_;refine gXy tv91 [27,28] 0 ?_;refine vD ?_;refine gx tv91 2 ?_;exact rt1 rfl rfl (J_ (fun r:Bool=> .bool r) e0 (ple rfl))
theorem Fv_ (p:PolicyR) (name:Bs):Fn Tryz.prog gb 130 [.agg (PolicyR.pc p), .str name] (.int .i64 (Br_ p name)):=by
  refine fC Tryz.func130 tv91 Tryz.ntmps130 fun w N H hG=>?_;have e0:=Br_.eq_1 p name;refine gm tv91 11 [0,1] fun B2=>?_;refine freeze (i:=1) (t:=3) rfl rfl rfl rfl ?_;refine gx tv91 1 ?_;refine call (Ub_ _ _ _ _ (fun z_4:PlaceR=>(Jf_ z_4 name)) (fun z_4=>S6_ z_4 name)) rfl rfl fun w5=>?_;have hix5:=H8_ (fun z_4:PlaceR=>(Jf_ z_4 name)) p.places;refine gx tv91 4 ?_;exact rt1 rfl rfl (J_ (fun r:Int=> .int .i64 r) e0 (ple rfl))
theorem Gx_ (p:PolicyR) (from_:Int) (to_:Int):Fn Tryz.prog gb 126 [.agg (PolicyR.pc p), .int .i64 from_, .int .i64 to_] (.int .i64 (Af_ p from_ to_)):=by
  refine fC Tryz.func126 tv91 Tryz.ntmps126 fun w N H hG=>?_;have e0:=Af_.eq_1 p from_ to_;refine gm tv91 12 [0,1,2] fun B2=>?_;refine freeze (i:=1) (t:=4) rfl rfl rfl rfl ?_;refine freeze (i:=2) (t:=5) rfl rfl rfl rfl ?_;refine gx tv91 1 ?_;refine call (Ua_ _ _ _ _ (fun z_5:GrantR=>(Hh_ z_5 from_ to_)) (fun z_5=>Qz_ z_5 from_ to_)) rfl rfl fun w6=>?_;have hix6:=H8_ (fun z_5:GrantR=>(Hh_ z_5 from_ to_)) p.grants;refine gx tv91 4 ?_;exact rt1 rfl rfl (J_ (fun r:Int=> .int .i64 r) e0 (ple rfl))
theorem Il_ (n:B7_) (x:NoteR) (hk:n.kept.length<=1000:=by first|omega|(simp;omega)|decide +kernel):Fn Tryz.prog gb 51 [.agg (B7_.pc n), .agg (NoteR.pc x)] (.tup [.agg (B7_.pc ((B9_ n x).1)), .int .i64 ((B9_ n x).2)]):=by
  refine fC Tryz.func51 tv91 Tryz.ntmps51 fun w N H hG=>?_;have e0:=B9_.eq_1 n x;generalize B9_ n x=z at e0 ⊢;refine gm tv91 19 [0,1,2] fun B2=>?_;refine cD e0 (fun p6 e7=>?_) (fun p9 e10=>?_)
  · refine gm tv91 10 [] fun _=>?_;subst e7;exact qr2
  refine gx tv91 8 ?_;refine cD e10 (fun p12 e13=>?_) (fun p15 e16=>?_)
  · refine gm tv91 10 [] fun _=>?_;subst e13;exact qr2
  refine gx tv91 8 ?_;refine ef (bsl 3 NoteR.pc [x] tv91 rfl rfl rfl rfl rfl (fun _=>rfl) rfl (by decide) (by decide) rfl fun u17=>?_);refine give 3 rfl ?_;refine ef (bsl 3 (slc NoteR.pc) [n.kept,[x]] tv91 rfl rfl rfl rfl rfl (fun _=>rfl) rfl (by decide) (by decide) rfl fun u18=>?_);refine give 3 rfl ?_;refine call (Y7_ _) rfl rfl fun w19=>?_;have hfl19:([n.kept,[x]].flatten).length=n.kept.length+1:=by simp only[List.flatten_cons,List.flatten_nil,List.length_append,List.length_nil,List.length_cons,Nat.add_zero,Nat.zero_add]
  refine gx tv91 4 ?_;refine aN [2,3,4,5,6,7,8] 12 mixd ?_;have :=Kt_ (n.total+1);refine gXy tv91 [0,1,2,3,4,5,6,7] 4 ?_;refine vq 8 (lslo tv91 ((max 0 ((([n.kept,[x]].flatten).length:Int)-32))).toNat rfl rfl rfl rfl rfl (fun _=>rfl) (by (try dsimp only);omega) (by (try dsimp only);omega)) rfl (by kernel_rfl) rfl fun w21=>?_;refine gX tv91 [9] 2 ?_;refine vT 10 rfl (sA tv91 ?_);refine gX tv91 [11] 0 ?_;refine vD ?_;refine gx tv91 2 ?_;subst e16;exact qr2
theorem K2_ (n:B7_) (number:Int):Fn Tryz.prog gb 287 [.agg (B7_.pc n), .int .u64 number] (.tup [.agg (NoteR.pc ((F6_ n number).1)), .bool ((F6_ n number).2)]):=by
  refine fC Tryz.func287 tv91 Tryz.ntmps287 fun w N H hG=>?_;have n_total_r:0<=n.total/\n.total<=18446744073709551615:=w.1.1;have n_kept_l:n.kept.length<=140737488355328:=w.1.2.1.1;have number_r:0<=number/\number<=18446744073709551615:=w.2.1;have e0:=F6_.eq_1 n number;generalize F6_ n number=z at e0 ⊢;refine gm tv91 14 [0,1] fun B2=>?_;refine q1 (qconv tv91 rfl rfl rfl rfl (Tg_ (by omega))) rfl fun w4=>?_;have :=Kt_ (n.total-(n.kept.length:Int));refine gy tv91 18 ?_;refine cE e0 (fun h5 e6=>?_) (fun h5 e12=>?_)
  · refine gm tv91 9 [] fun _=>?_;subst e6;exact qr2
  have h8:=orl h5;have p9:=df h8;have h10:=orr h5;have p11:=df h10;have :=Kt_ (number-(IntKind.wrap .u64 (n.total-(n.kept.length:Int))));have :=Kt_ ((IntKind.wrap .u64 (number-(IntKind.wrap .u64 (n.total-(n.kept.length:Int)))))-1);have hc13:=getG (xs:=n.kept) (k:=((IntKind.wrap .u64 ((IntKind.wrap .u64 (number-(IntKind.wrap .u64 (n.total-(n.kept.length:Int)))))-1))).toNat) (by simp only[IntKind.wrap_u64] at *;omega);refine gx tv91 10 ?_;refine q1 (qidx tv91 ((IntKind.wrap .u64 ((IntKind.wrap .u64 (number-(IntKind.wrap .u64 (n.total-(n.kept.length:Int)))))-1))).toNat rfl rfl (by omega) hc13 rfl rfl rfl rfl) rfl fun w14=>?_;refine gm tv91 6 [] fun _=>?_;subst e12;exact qr2
theorem Im_ (n:B7_) (hk:n.kept.length<=1000:=by first|omega|(simp;omega)|decide +kernel):Fn Tryz.prog gb 64 [.agg (B7_.pc n)] (.sl NoteR.pc (E8_ n)):=by
  refine fC Tryz.func64 tv91 Tryz.ntmps64 fun w N H hG=>?_;have e0:=E8_.eq_1 n;refine gm tv91 10 [0] fun B2=>?_;refine call (clone_Note _) rfl rfl fun w3=>?_;refine gx tv91 4 ?_;exact rt1 rfl rfl (J_ (fun r:(List NoteR)=> .sl NoteR.pc r) e0 (ple rfl))
theorem Mm_ (l:LineR) (id:Int):Fn Tryz.prog gb 265 [.agg (LineR.pc l), .int .u64 id] (.int .i64 (Da_ l id)):=by
  refine fC Tryz.func265 tv91 Tryz.ntmps265 fun w N H hG=>?_;have e0:=Da_.eq_1 l id;refine gm tv91 11 [0,1] fun B2=>?_;refine freeze (i:=1) (t:=3) rfl rfl rfl rfl ?_;refine gx tv91 1 ?_;refine call (Rx_ _ _ _ _ (fun z_4:ItemR=>(O1_ z_4 id)) (fun z_4=>Zk_ z_4 id)) rfl rfl fun w5=>?_;have hix5:=H8_ (fun z_4:ItemR=>(O1_ z_4 id)) l.items;refine gx tv91 4 ?_;exact rt1 rfl rfl (J_ (fun r:Int=> .int .i64 r) e0 (ple rfl))
theorem O0_ (l:LineR) (m:Mail):Fn Tryz.prog gb 309 [.agg (LineR.pc l), .agg (Mail.pc m)] (.int .i64 (E5_ l m)):=by
  refine fC Tryz.func309 tv91 Tryz.ntmps309 fun w N H hG=>?_;have l_items_l:l.items.length<=140737488355328:=w.1.1.1;have m_head_l:m.head.length<=140737488355328:=w.2.1.2.2.2.1.1;have e0:=E5_.eq_1 l m;generalize E5_ l m=z at e0 ⊢;refine gm tv91 11 [0,1] fun B2=>?_;refine call (J5_ _) rfl rfl fun w4=>?_;have :=Mq_ m;have hmo4:=fun h=>G1_ (m:=m) h;refine gx tv91 9 ?_;refine cN e0 (fun p7 e8=>?_) (fun p10 e11=>?_)
  · refine gx tv91 8 ?_;subst e8;exact qr1
  refine gx tv91 13 ?_;refine aN [2,3,4,5,6,7] 16 mixd ?_;refine gXy tv91 [0,1,2,3,4,5,6] 9 ?_;refine vqg 7 [20,22] rfl (by kernel_rfl) rfl rfl (fun hc=>qidx tv91 (((l.items.length:Int)-1)).toNat rfl rfl (by first|omega|(simp only[gOf,bl2] at *;omega)) (getG (by first|omega|(simp only[gOf,bl2] at *;omega))) rfl rfl rfl rfl) ⟨(fun hc=>hc),(fun hc=>hc),trivial⟩ rfl fun _=>?_;refine gXy tv91 [8,9,10,11,12,13,14,15] 0 ?_;refine vD ?_;refine gx tv91 1 ?_;refine cE e11 (fun h12 e17=>?_) (fun h12 e18=>?_)
  · have h13:=bl h12;have p14:=dt h13;have h15:=br h12;have p16:=dt h15;refine gx tv91 8 ?_;subst e17;exact qr1
  refine gx tv91 7 ?_;refine cD e18 (fun p20 e21=>?_) (fun p22 e23=>?_)
  · refine gx tv91 8 ?_;subst e21;exact qr1
  refine gx tv91 9 ?_;subst e23;exact qr1
theorem Lo_ (l:LineR):Fn Tryz.prog gb 262 [.agg (LineR.pc l), .fn 263 [] []] (.int .i64 (Di_ l)):=by
  refine fC Tryz.func262 tv91 Tryz.ntmps262 fun w N H hG=>?_;have e0:=Di_.eq_1 l;refine gm tv91 11 [0,1] fun B2=>?_;refine freeze (i:=1) (t:=3) rfl rfl rfl rfl ?_;refine gx tv91 1 ?_;refine call (Rx_ _ _ _ _ (fun z_4:ItemR=>(G5_ z_4)) (fun z_4=>O2_ z_4)) rfl rfl fun w5=>?_;have hix5:=H8_ (fun z_4:ItemR=>(G5_ z_4)) l.items;refine gx tv91 4 ?_;exact rt1 rfl rfl (J_ (fun r:Int=> .int .i64 r) e0 (ple rfl))
theorem O3_ (l:LineR) (so:Int):Fn Tryz.prog gb 262 [.agg (LineR.pc l), .fn 269 [] [.el [.int .u64 so] 0]] (.int .i64 (Ed_ l so)):=by
  refine fC Tryz.func262 tv91 Tryz.ntmps262 fun w N H hG=>?_;have e0:=Ed_.eq_1 l so;refine gm tv91 11 [0,1] fun B2=>?_;refine freeze (i:=1) (t:=3) rfl rfl rfl rfl ?_;refine gx tv91 1 ?_;refine call (Rx_ _ _ _ _ (fun z_4:ItemR=>(Gp_ z_4 so)) (fun z_4=>N0_ z_4 so)) rfl rfl fun w5=>?_;have hix5:=H8_ (fun z_4:ItemR=>(Gp_ z_4 so)) l.items;refine gx tv91 4 ?_;exact rt1 rfl rfl (J_ (fun r:Int=> .int .i64 r) e0 (ple rfl))
abbrev R2_:(LineR×Int)->PV:=fun r=> .tup [.agg (LineR.pc r.1), .int .i64 r.2]
abbrev R3_:ItemR->PV:=fun r=> .agg (ItemR.pc r)
theorem cb213:U_ Tryz.prog 213:=P_ Tryz.func213 (by kernel_rfl) (by kernel_rfl)
theorem cb214:U_ Tryz.prog 214:=P_ Tryz.func214 (by kernel_rfl) (by kernel_rfl)
theorem cb264:U_ Tryz.prog 264:=P_ Tryz.func264 (by kernel_rfl) (by kernel_rfl)
theorem cb266:U_ Tryz.prog 266:=P_ Tryz.func266 (by kernel_rfl) (by kernel_rfl)
theorem fl75_1:Fld Tryz.prog 75 1 7:=fun b o w=>by kernel_rfl
theorem fl75_2:Fld Tryz.prog 75 2 8:=fun b o w=>by kernel_rfl
abbrev ty47:TI:=⟨.agg [(0,1),(1,1)],2,32,[.int .u64 0, .sl Mail.pc []]⟩
abbrev ty50:TI:=⟨.agg [(0,1),(1,1),(2,1),(3,32)],35,552,[.int .u64 0, .int .i64 0, .sl RowR.pc [], .int .u64 0, .sl Mail.pc [], .int .u64 0, .sl Mail.pc [], .int .u64 0, .sl Mail.pc [], .int .u64 0, .sl Mail.pc [], .int .u64 0, .sl Mail.pc [], .int .u64 0, .sl Mail.pc [], .int .u64 0, .sl Mail.pc [], .int .u64 0, .sl Mail.pc [], .int .u64 0, .sl Mail.pc [], .int .u64 0, .sl Mail.pc [], .int .u64 0, .sl Mail.pc [], .int .u64 0, .sl Mail.pc [], .int .u64 0, .sl Mail.pc [], .int .u64 0, .sl Mail.pc [], .int .u64 0, .sl Mail.pc [], .int .u64 0, .sl Mail.pc []]⟩
def tbv92:Tb:=[(3,ty3),(4,ty4),(9,ty9),(22,ty22),(44,ty44),(45,ty45),(47,ty47),(50,ty50),(66,ty66),(71,ty71),(75,ty75),(238,ty238),(240,Wh_),(242,ty242),(399,ty399),(408,ty408)]
theorem tv92:tbB Tryz.prog tbv92=true:=by kernel_rfl
theorem Qy_ (l:LineR) (x:ItemR) (hh:x.mail.head.length<=1000000:=by omega):Fn Tryz.prog gb 278 [.agg (LineR.pc l), .agg (ItemR.pc x)] (.tup [.agg (LineR.pc ((Eu_ l x).1)), .int .i64 ((Eu_ l x).2)]):=by
  refine fC Tryz.func278 tv92 Tryz.ntmps278 fun w N H hG=>?_;have e0:=Eu_.eq_1 l x;generalize Eu_ l x=z at e0 ⊢;refine gm tv92 14 [0,1,2] fun B2=>?_;refine cV e0 R0_ (O0_ _ _) rfl fun r hr5 e7 w6=>?_
  (try have hA7:=@Xw_ l x.mail;(try rw[<- hr5] at hA7))
  refine gx tv92 9 ?_;refine cN e7 (fun p11 e12=>?_) (fun p15 e16=>?_)
  · refine gm tv92 10 [] fun _=>?_;subst e12;exact qr2
  refine gx tv92 3 ?_;refine aN [2,3,4,5,6,7,8] 10 mixd ?_;refine gX tv92 [0,1,2] 7 ?_;refine vE 3 rfl (eC (G0_ _) rfl ?_);generalize hr18:By_ x=r1;intro w17;have e19:=e16.trans (Ei_ hr18.symm);refine vE 4 rfl (bsl 3 ItemR.pc [r1] tv92 rfl rfl rfl rfl rfl (fun _=>rfl) rfl (by decide) (by decide) rfl fun u20=>?_);refine vE 5 rfl (Tt_ 3 rfl (bsl 3 (slc ItemR.pc) [l.items,[r1]] tv92 rfl rfl rfl rfl rfl (fun _=>rfl) rfl (by decide) (by decide) rfl fun u21=>?_));refine vE 6 rfl (Tt_ 3 rfl (Zb_ (eC (Ro_ _) rfl fun w22=>?_)));have hfl22:([l.items,[r1]].flatten).length=l.items.length+1:=by simp only[List.flatten_cons,List.flatten_nil,List.length_append,List.length_nil,List.length_cons,Nat.add_zero,Nat.zero_add]
  refine gX tv92 [7] 2 ?_;refine vT 8 rfl (sA tv92 ?_);refine gX tv92 [9] 0 ?_;refine vD ?_;refine gx tv92 2 ?_;subst e19;exact qr2
theorem Jo_ (l:LineR) (m:Mail) (hh:m.head.length<=1000000:=by omega):Fn Tryz.prog gb 259 [.agg (LineR.pc l), .agg (Mail.pc m)] (.tup [.agg (LineR.pc ((Cl_ l m).1)), .int .i64 ((Cl_ l m).2)]):=by
  refine fC Tryz.func259 tv92 Tryz.ntmps259 fun w N H hG=>?_;have e0:=Cl_.eq_1 l m;refine gm tv92 13 [0,1,2] fun B2=>?_;refine cV e0 R2_ (Qy_ _ (⟨m,false,false⟩:ItemR)) rfl fun r hr5 e7 w6=>?_;refine gm tv92 7 [] fun _=>?_;exact rt2 rfl rfl (J_ (fun r:LineR×Int=> .tup [.agg (LineR.pc r.1), .int .i64 r.2]) e7 (ple rfl))
theorem Kc_ (l:LineR) (id:Int) (hl:LnOk l:=by assumption):Fn Tryz.prog gb 207 [.agg (LineR.pc l), .int .u64 id] (.tup [.agg (LineR.pc ((Ae_ l id).1)), .agg (ItemR.pc ((Ae_ l id).2.1)), .int .i64 ((Ae_ l id).2.2)]):=by
  refine fC Tryz.func207 tv92 Tryz.ntmps207 fun w N H hG=>?_;have hl0:=hl;obtain⟨hl1,hl2,hl3⟩:=hl0;have e0:=Ae_.eq_1 l id;generalize Ae_ l id=z at e0 ⊢;refine gm tv92 12 [0,1,2] fun B2=>?_;refine cV e0 R0_ (Mm_ _ _) rfl fun r hr5 e7 w6=>?_;have hA7:=lof_b l id
  (try rw[<- hr5] at hA7)
  refine gx tv92 10 ?_;refine cD e7 (fun p10 e11=>?_) (fun p13 e14=>?_)
  · refine gm tv92 11 [] fun _=>?_;subst e11;exact qr3
  have hc15:=getG (xs:=l.items) (k:=(r).toNat) (by omega);have hz_hc15:=(hl2 (gt l.items ((r).toNat)) (List.mem_of_getElem? hc15)).1;refine gx tv92 7 ?_;refine q1 (qidx tv92 (r).toNat rfl rfl (by omega) hc15 rfl rfl rfl rfl) rfl fun w16=>?_;refine gx tv92 1 ?_;refine cV e14 R3_ (G0_ _) rfl fun r1 hr17 e19 w18=>?_;refine gm tv92 5 [3] fun B21=>?_;refine aN [1,2,4,5,6,7,8,9] 16 mixd ?_;refine gX tv92 [0,1,2] 13 ?_;refine vq 3 (lshi tv92 (r).toNat rfl rfl rfl rfl rfl (fun _=>rfl) (by omega) (by omega)) rfl (by kernel_rfl) rfl fun w22=>?_;refine gXy tv92 [4,5,6,7] 8 ?_;refine vq 8 (lslo tv92 ((r+1)).toNat rfl rfl rfl rfl rfl (fun _=>rfl) (by omega) (by omega)) rfl (by kernel_rfl) rfl fun w23=>?_;refine gX tv92 [12] 6 ?_;refine vE 9 rfl (bsl 4 (slc ItemR.pc) [(l.items.take (r).toNat),(l.items.drop ((r+1)).toNat)] tv92 rfl rfl rfl rfl rfl (fun _=>rfl) rfl (by decide) (by decide) rfl fun u24=>?_);refine vE 10 rfl (Tt_ 4 rfl (Zb_ (eC (Ro_ _) rfl fun w25=>?_)));have hfl25:([(l.items.take (r).toNat),(l.items.drop ((r+1)).toNat)].flatten).length=(l.items.take (r).toNat).length+(l.items.drop ((r+1)).toNat).length:=by simp only[List.flatten_cons,List.flatten_nil,List.length_append,List.length_nil,List.length_cons,Nat.add_zero,Nat.zero_add]
  refine gX tv92 [11] 3 ?_;refine vE 13 rfl (sA tv92 ?_);refine vT 14 rfl (sA tv92 ?_);refine gX tv92 [15] 0 ?_;refine vD ?_;refine gx tv92 2 ?_;subst e19;exact qr3
theorem Ln_ (l:LineR) (k:Int) (hl:LnOk l:=by assumption) (hk:k<l.items.length:=by omega):Fn Tryz.prog gb 268 [.agg (LineR.pc l), .int .i64 k] (.tup [.agg (Mail.pc ((B4_ l k).1)), .bool ((B4_ l k).2)]):=by
  refine fC Tryz.func268 tv92 Tryz.ntmps268 fun w N H hG=>?_;have hl0:=hl;obtain⟨hl1,hl2,hl3⟩:=hl0;have e0:=B4_.eq_1 l k;generalize B4_ l k=z at e0 ⊢;refine gm tv92 14 [0,1] fun B2=>?_;refine cD e0 (fun p5 e6=>?_) (fun p8 e9=>?_)
  · refine gm tv92 9 [] fun _=>?_;subst e6;exact qr2
  have hc10:=getG (xs:=l.items) (k:=(k).toNat) (by omega);have hz_hc10:=(hl2 (gt l.items ((k).toNat)) (List.mem_of_getElem? hc10)).1;refine gx tv92 7 ?_;refine q1 (qidx tv92 (k).toNat rfl rfl (by omega) hc10 rfl rfl rfl rfl) rfl fun w11=>?_;refine gx tv92 2 ?_;refine cV e9 R1_ (Ft_ _) rfl fun r hr12 e14 w13=>?_;refine gm tv92 5 [] fun _=>?_;subst e14;exact qr2
theorem P2_ (l:LineR):Fn Tryz.prog gb 142 [.agg (LineR.pc l)] (.int .i64 (D8_ l)):=by
  refine fC Tryz.func142 tv92 Tryz.ntmps142 fun w N H hG=>?_;have l_items_l:l.items.length<=140737488355328:=w.1.1.1;have e0:=D8_.eq_1 l;refine gm tv92 21 [0] fun B2=>?_;refine loop (ι:=Nat×Int) [2,7,8] [0] (fun ⟨k,n⟩=>[(9, .int .i64 (k:Int)),(3, .int .i64 n)]) (fun ⟨k,n⟩=>[]) (fun ⟨k,n⟩=>k<=l.items.length/\D8_ l=A9_ (l.items.drop k) n/\0<=n/\n<=3000*k) (fun ⟨k,n⟩=>l.items.length-k) ⟨0,0⟩ ⟨rfl,rfl,trivial⟩ trivial ?_ ?_
  · exact⟨Nat.zero_le _,e0,(by first|omega|(simp;done)|(simp;omega))⟩
  rintro⟨k,n⟩ ⟨hp3_1,hp3_2,hp3_3⟩;refine gx tv92 6 ?_;refine cn rfl (fun p5=>?_) fun p15=>?_
  · have e6:=A7_ (f:=fun zz=>A9_ zz n) hp3_2 (Es_ (by omega)) (A9_.eq_2 _ _ _);have hc7:=getG (xs:=l.items) (k:=k) (by omega);refine gx tv92 6 ?_;refine q1 (qidx tv92 k rfl rfl rfl hc7 rfl rfl rfl rfl) rfl fun w8=>?_;refine gm tv92 9 [1] fun B10=>?_;refine cV e6 R0_ (K1_ _) rfl fun r hr11 e13 w12=>?_;have hA13:=Un_ ((gt l.items k).mail)
    (try rw[<- hr11] at hA13)
    refine gy tv92 9 ?_;refine next ⟨(k+1),(n+r)⟩ rfl rfl ⟨rfl,rfl,trivial⟩ trivial ?_ ?_
    · (try simp only[]);omega
    exact⟨by (try simp only[]);omega,e13,by (try simp only[]);omega⟩
  have e16:=A7_ (f:=fun zz=>A9_ zz n) hp3_2 (Et_ (by omega)) (A9_.eq_1 _);refine gx tv92 12 ?_;exact rt1 rfl rfl (J_ (fun r:Int=> .int .i64 r) e16 (ple rfl))
theorem Iw_ (l:LineR) (hl:LnOk l:=by assumption):Fn Tryz.prog gb 205 [.agg (LineR.pc l)] (.tup [.agg (LineR.pc ((Cg_ l).1)), .agg (ItemR.pc ((Cg_ l).2.1)), .bool ((Cg_ l).2.2)]):=by
  refine fC Tryz.func205 tv92 Tryz.ntmps205 fun w N H hG=>?_;have hl0:=hl;obtain⟨hl1,hl2,hl3⟩:=hl0;have e0:=Cg_.eq_1 l;generalize Cg_ l=z at e0 ⊢;refine gm tv92 11 [0,1,2] fun B2=>?_;refine cV e0 R0_ (Lo_ _) rfl fun r hr5 e7 w6=>?_;have hA7:=Ra_ l
  (try rw[<- hr5] at hA7)
  refine gx tv92 10 ?_;refine cD e7 (fun p10 e11=>?_) (fun p13 e14=>?_)
  · refine gm tv92 11 [] fun _=>?_;subst e11;exact qr3
  refine gx tv92 6 ?_;refine hinl [] tv92 Tryz.func213 rfl Tryz.ntmps213 cb213 rfl rfl rfl rfl fun Hc15 hHc15=>?_;refine gm tv92 10 [3,4] fun B17=>?_;refine ef (ecallo 5 (N3_ _) rfl rfl fun u20 w19=>?_);refine gx tv92 8 ?_;refine so_osl (t:=12) 5 rfl rfl ?_;refine q1 (eidx (r).toNat tv92 rfl rfl rfl rfl rfl rfl rfl (by omega) (by omega)) rfl fun w21=>?_;refine hinl [12] tv92 Tryz.func264 rfl Tryz.ntmps264 cb264 rfl rfl rfl rfl fun Hc22 hHc22=>?_;refine gx tv92 3 ?_;refine q1 (efld rfl fl75_1) rfl fun w23=>?_;have hc24:=getG (xs:=l.items) (k:=(r).toNat) (by omega);have hz_hc24:=(hl2 (gt l.items ((r).toNat)) (List.mem_of_getElem? hc24)).1;refine ef (est1 (i:=5) ((r).toNat) 7 (⟨(gt l.items ((r).toNat)).mail,true,(gt l.items ((r).toNat)).again⟩:ItemR) tv92 rfl rfl rfl rfl rfl rfl (by omega) rfl (by decide) (fun _ h=>by obtain rfl :=Option.some.inj (h.symm.trans hc24);rfl) ?_);have hset24:(l.items.set ((r).toNat) (⟨(gt l.items ((r).toNat)).mail,true,(gt l.items ((r).toNat)).again⟩:ItemR)).length=l.items.length:=List.length_set ..;refine gx tv92 1 ?_;refine inln rfl rfl rfl ⟨rfl,trivial⟩ ?_;refine gx tv92 5 ?_;refine so_osl (t:=16) 5 rfl rfl ?_;refine so_osl (t:=10) 5 rfl rfl ?_;refine so_osl (t:=7) 5 rfl rfl ?_;refine give 5 rfl ?_;refine gm tv92 5 [] fun _=>?_;refine inlr rfl rfl rfl trivial ?_;refine gm tv92 4 [] fun _=>?_;refine aN [1,2,5,6,7,8,9,10] 10 mixd ?_;refine gX tv92 [0,1,2,3] 6 ?_;have hc28:=getG (xs:=(l.items.set ((r).toNat) (⟨(gt l.items ((r).toNat)).mail,true,(gt l.items ((r).toNat)).again⟩:ItemR))) (k:=(r).toNat) (by omega);have hz_hc28:((gt (l.items.set ((r).toNat) (⟨(gt l.items ((r).toNat)).mail,true,(gt l.items ((r).toNat)).again⟩:ItemR)) ((r).toNat))).mail.head.length<=8:=by rw[W1_ (by (try simp only[List.length_set]);omega)];(try rw[W1_ (by omega)]);exact (hl2 _ (List.mem_of_getElem? (getG (by omega)))).1
  refine vq 4 (qidx tv92 (r).toNat rfl rfl (by omega) hc28 rfl rfl rfl rfl) rfl (by kernel_rfl) rfl fun w29=>?_;refine gX tv92 [5] 4 ?_;refine vE 6 rfl (eC (G0_ _) rfl ?_);generalize hr31:By_ (gt (l.items.set ((r).toNat) (⟨(gt l.items ((r).toNat)).mail,true,(gt l.items ((r).toNat)).again⟩:ItemR)) ((r).toNat))=r1;intro w30;have e32:=e14.trans (Ei_ hr31.symm);refine vE 7 rfl (sA tv92 ?_);refine vT 8 rfl (sA tv92 ?_);refine gX tv92 [9] 0 ?_;refine vD ?_;refine gx tv92 2 ?_;subst e32;exact qr3
theorem Lm_ (l:LineR) (id:Int) (hl:LnOk l:=by assumption):Fn Tryz.prog gb 206 [.agg (LineR.pc l), .int .u64 id] (.tup [.agg (LineR.pc ((Dh_ l id).1)), .int .i64 ((Dh_ l id).2)]):=by
  refine fC Tryz.func206 tv92 Tryz.ntmps206 fun w N H hG=>?_;have hl0:=hl;obtain⟨hl1,hl2,hl3⟩:=hl0;have e0:=Dh_.eq_1 l id;generalize Dh_ l id=z at e0 ⊢;refine gm tv92 11 [0,1] fun B2=>?_;refine cV e0 R0_ (Mm_ _ _) rfl fun r hr4 e6 w5=>?_;have hA6:=lof_b l id
  (try rw[<- hr4] at hA6)
  refine gx tv92 12 ?_;refine cD e6 (fun p9 e10=>?_) (fun p12 e13=>?_)
  · refine gm tv92 10 [] fun _=>?_;subst e10;exact qr2
  have hc14:=getG (xs:=l.items) (k:=(r).toNat) (by omega);have hz_hc14:=(hl2 (gt l.items ((r).toNat)) (List.mem_of_getElem? hc14)).1;refine gx tv92 5 ?_;refine q1 (qidx tv92 (r).toNat rfl rfl (by omega) hc14 rfl rfl rfl rfl) rfl fun w15=>?_;refine gx tv92 6 ?_;refine cE e13 (fun h16 e18=>?_) (fun h16 e21=>?_)
  · have h17:=Ds_ h16;refine gm tv92 10 [] fun _=>?_;subst e18;exact qr2
  have h20:=D2_ h16;refine gx tv92 7 ?_;refine hinl [] tv92 Tryz.func213 rfl Tryz.ntmps213 cb213 rfl rfl rfl rfl fun Hc22 hHc22=>?_;refine gm tv92 10 [2,3] fun B24=>?_;refine ef (ecallo 4 (N3_ _) rfl rfl fun u27 w26=>?_);refine gx tv92 8 ?_;refine so_osl (t:=12) 4 rfl rfl ?_;refine q1 (eidx (r).toNat tv92 rfl rfl rfl rfl rfl rfl rfl (by omega) (by omega)) rfl fun w28=>?_;refine hinl [12] tv92 Tryz.func266 rfl Tryz.ntmps266 cb266 rfl rfl rfl rfl fun Hc29 hHc29=>?_;refine gx tv92 4 ?_;refine q1 (efld rfl fl75_1) rfl fun w30=>?_;refine ef (est1 (i:=4) ((r).toNat) 7 (⟨(gt l.items ((r).toNat)).mail,false,(gt l.items ((r).toNat)).again⟩:ItemR) tv92 rfl rfl rfl rfl rfl rfl (by omega) rfl (by decide) (fun _ h=>by obtain rfl :=Option.some.inj (h.symm.trans hc14);rfl) ?_);have hset30:(l.items.set ((r).toNat) (⟨(gt l.items ((r).toNat)).mail,false,(gt l.items ((r).toNat)).again⟩:ItemR)).length=l.items.length:=List.length_set ..;refine gx tv92 1 ?_;refine q1 (efld rfl fl75_2) rfl fun w32=>?_;have hc33:=getG (xs:=(l.items.set ((r).toNat) (⟨(gt l.items ((r).toNat)).mail,false,(gt l.items ((r).toNat)).again⟩:ItemR))) (k:=(r).toNat) (by omega);have hz_hc33:((gt (l.items.set ((r).toNat) (⟨(gt l.items ((r).toNat)).mail,false,(gt l.items ((r).toNat)).again⟩:ItemR)) ((r).toNat))).mail.head.length<=8:=by rw[W1_ (by (try simp only[List.length_set]);omega)];(try rw[W1_ (by omega)]);exact (hl2 _ (List.mem_of_getElem? (getG (by omega)))).1
  refine ef (est1 (i:=4) ((r).toNat) 8 (⟨(gt (l.items.set ((r).toNat) (⟨(gt l.items ((r).toNat)).mail,false,(gt l.items ((r).toNat)).again⟩:ItemR)) ((r).toNat)).mail,(gt (l.items.set ((r).toNat) (⟨(gt l.items ((r).toNat)).mail,false,(gt l.items ((r).toNat)).again⟩:ItemR)) ((r).toNat)).lent,true⟩:ItemR) tv92 rfl rfl rfl rfl rfl rfl (by omega) rfl (by decide) (fun _ h=>by obtain rfl :=Option.some.inj (h.symm.trans hc33);rfl) ?_);have hset33:((l.items.set ((r).toNat) (⟨(gt l.items ((r).toNat)).mail,false,(gt l.items ((r).toNat)).again⟩:ItemR)).set ((r).toNat) (⟨(gt (l.items.set ((r).toNat) (⟨(gt l.items ((r).toNat)).mail,false,(gt l.items ((r).toNat)).again⟩:ItemR)) ((r).toNat)).mail,(gt (l.items.set ((r).toNat) (⟨(gt l.items ((r).toNat)).mail,false,(gt l.items ((r).toNat)).again⟩:ItemR)) ((r).toNat)).lent,true⟩:ItemR)).length=(l.items.set ((r).toNat) (⟨(gt l.items ((r).toNat)).mail,false,(gt l.items ((r).toNat)).again⟩:ItemR)).length:=List.length_set ..;refine gx tv92 1 ?_;refine inln rfl rfl rfl ⟨rfl,trivial⟩ ?_;refine gx tv92 5 ?_;refine so_osl (t:=16) 4 rfl rfl ?_;refine so_osl (t:=10) 4 rfl rfl ?_;refine so_osl (t:=7) 4 rfl rfl ?_;refine give 4 rfl ?_;refine gm tv92 5 [] fun _=>?_;refine inlr rfl rfl rfl trivial ?_;refine gm tv92 5 [] fun _=>?_;subst e21;exact qr2
theorem P3_ (l:LineR) (hl:LnOk l:=by assumption):Fn Tryz.prog gb 128 [.agg (LineR.pc l)] (.agg (LineR.pc (Gt_ l))):=by
  refine fC Tryz.func128 tv92 Tryz.ntmps128 fun w N H hG=>?_;have hl0:=hl;obtain⟨hl1,hl2,hl3⟩:=hl0;have e0:=Gt_.eq_1 l;refine gm tv92 16 [0,1] fun B2=>?_;refine loop (ι:=Nat×LineR) [1,2,6,7] [1] (fun ⟨k,x⟩=>[(8, .int .i64 (k:Int))]) (fun ⟨k,x⟩=>[(0, .box (B2 0) 240 (LineR.pc x))]) (fun ⟨k,x⟩=>k<=l.items.length/\Gt_ l=Bk_ (l.items.drop k) k x/\x.items.length=l.items.length) (fun ⟨k,x⟩=>l.items.length-k) ⟨0,l⟩ ⟨rfl,trivial⟩ ⟨rfl,trivial⟩ ?_ ?_
  · exact⟨Nat.zero_le _,e0,rfl⟩
  rintro⟨k,x⟩ ⟨hp4_1,hp4_2,hp4_3⟩;refine gx tv92 6 ?_;refine cn rfl (fun p6=>?_) fun p31=>?_
  · have e7:=A7_ (f:=fun zz=>Bk_ zz k x) hp4_2 (Es_ (by omega)) (Bk_.eq_2 _ _ _ _);have hc8:=getG (xs:=l.items) (k:=k) (by omega);refine gx tv92 7 ?_;refine q1 (qidx tv92 k rfl rfl rfl hc8 rfl rfl rfl rfl) rfl fun w9=>?_;refine gm tv92 12 [2] fun B11=>?_;refine cE e7 (fun h12 e13=>?_) (fun h12 e30=>?_)
    · refine gx tv92 3 ?_;refine hinl [] tv92 Tryz.func213 rfl Tryz.ntmps213 cb213 rfl rfl rfl rfl fun Hc14 hHc14=>?_;refine gm tv92 10 [3,4] fun B16=>?_;refine ef (ecallo 5 (N3_ _) rfl rfl fun u19 w18=>?_);refine gx tv92 8 ?_;refine so_osl (t:=12) 5 rfl rfl ?_;refine q1 (eidx k tv92 rfl rfl rfl rfl rfl rfl rfl rfl (by omega)) rfl fun w20=>?_;refine hinl [12] tv92 Tryz.func214 rfl Tryz.ntmps214 cb214 rfl rfl rfl rfl fun Hc21 hHc21=>?_;refine gx tv92 4 ?_;refine q1 (efld rfl fl75_1) rfl fun w22=>?_;have hc23:=getG (xs:=x.items) (k:=k) (by omega);refine ef (est1 (i:=5) k 7 (⟨(gt x.items k).mail,false,(gt x.items k).again⟩:ItemR) tv92 rfl rfl rfl rfl rfl rfl (by omega) rfl (by decide) (fun _ h=>by obtain rfl :=Option.some.inj (h.symm.trans hc23);rfl) ?_);have hset23:(x.items.set k (⟨(gt x.items k).mail,false,(gt x.items k).again⟩:ItemR)).length=x.items.length:=List.length_set ..;refine gx tv92 1 ?_;refine q1 (efld rfl fl75_2) rfl fun w25=>?_;have hc26:=getG (xs:=(x.items.set k (⟨(gt x.items k).mail,false,(gt x.items k).again⟩:ItemR))) (k:=k) (by omega);refine ef (est1 (i:=5) k 8 (⟨(gt (x.items.set k (⟨(gt x.items k).mail,false,(gt x.items k).again⟩:ItemR)) k).mail,(gt (x.items.set k (⟨(gt x.items k).mail,false,(gt x.items k).again⟩:ItemR)) k).lent,true⟩:ItemR) tv92 rfl rfl rfl rfl rfl rfl (by omega) rfl (by decide) (fun _ h=>by obtain rfl :=Option.some.inj (h.symm.trans hc26);rfl) ?_);have hset26:((x.items.set k (⟨(gt x.items k).mail,false,(gt x.items k).again⟩:ItemR)).set k (⟨(gt (x.items.set k (⟨(gt x.items k).mail,false,(gt x.items k).again⟩:ItemR)) k).mail,(gt (x.items.set k (⟨(gt x.items k).mail,false,(gt x.items k).again⟩:ItemR)) k).lent,true⟩:ItemR)).length=(x.items.set k (⟨(gt x.items k).mail,false,(gt x.items k).again⟩:ItemR)).length:=List.length_set ..;refine gx tv92 1 ?_;refine inln rfl rfl rfl ⟨rfl,trivial⟩ ?_;refine gx tv92 5 ?_;refine so_osl (t:=16) 5 rfl rfl ?_;refine so_osl (t:=10) 5 rfl rfl ?_;refine so_osl (t:=7) 5 rfl rfl ?_;refine give 5 rfl ?_;refine gm tv92 5 [] fun _=>?_;refine inlr rfl rfl rfl trivial ?_;refine gmy tv92 8 [] fun _=>?_;refine next ⟨(k+1),(⟨((x.items.set k (⟨(gt x.items k).mail,false,(gt x.items k).again⟩:ItemR)).set k (⟨(gt (x.items.set k (⟨(gt x.items k).mail,false,(gt x.items k).again⟩:ItemR)) k).mail,(gt (x.items.set k (⟨(gt x.items k).mail,false,(gt x.items k).again⟩:ItemR)) k).lent,true⟩:ItemR))⟩:LineR)⟩ rfl rfl ⟨rfl,trivial⟩ ⟨rfl,trivial⟩ ?_ ?_
      · (try simp only[]);omega
      exact⟨by (try simp only[]);omega,e13,by (try simp only[List.length_set]);omega⟩
    refine gy tv92 7 ?_;refine next ⟨(k+1),x⟩ rfl rfl ⟨rfl,trivial⟩ ⟨rfl,trivial⟩ ?_ ?_
    · (try simp only[]);omega
    exact⟨by (try simp only[]);omega,e30,by (try simp only[List.length_set]);omega⟩
  have e32:=A7_ (f:=fun zz=>Bk_ zz k x) hp4_2 (Et_ (by omega)) (Bk_.eq_1 _ _);refine gm tv92 12 [] fun _=>?_;exact rt1 rfl rfl (J_ (fun r:LineR=> .agg (LineR.pc r)) e32 (ple rfl))
theorem K0_ (l:LineR) (hl:LnOk l:=by assumption):Fn Tryz.prog gb 258 [.agg (LineR.pc l)] (.tup [.agg (Mail.pc ((Dl_ l).1)), .bool ((Dl_ l).2)]):=by
  refine fC Tryz.func258 tv92 Tryz.ntmps258 fun w N H hG=>?_;have hl0:=hl;obtain⟨hl1,hl2,hl3⟩:=hl0;have e0:=Dl_.eq_1 l;refine gm tv92 8 [0,1] fun B2=>?_;refine aN [1,2,3,4,5,6,7] 8 mixd ?_;refine gX tv92 [0,1] 6 ?_;refine vC 2 rfl (Lo_ _) rfl fun w4=>?_;have hB4:=Ra_ l;refine vE 3 rfl (eC (Ln_ _ _) rfl ?_);generalize hr7:B4_ l (Di_ l)=r;intro w6;have e8:=e0.trans (Ei_ hr7.symm);refine gX tv92 [4,5] 2 ?_;refine vT 6 rfl (sA tv92 ?_);refine gX tv92 [7] 0 ?_;refine vD ?_;refine gx tv92 2 ?_;exact rt2 rfl rfl (J_ (fun r:Mail×Bool=> .tup [.agg (Mail.pc r.1), .bool r.2]) e8 (ple rfl))
theorem P1_ (l:LineR) (tick:Int) (hl:LnOk l:=by assumption):Fn Tryz.prog gb 208 [.agg (LineR.pc l), .int .u64 tick] (.tup [.agg (Mail.pc ((D7_ l tick).1)), .bool ((D7_ l tick).2)]):=by
  refine fC Tryz.func208 tv92 Tryz.ntmps208 fun w N H hG=>?_;have hl0:=hl;obtain⟨hl1,hl2,hl3⟩:=hl0;have e0:=D7_.eq_1 l tick;refine gm tv92 9 [0,1,2] fun B2=>?_;refine freezec (i:=1) (t:=3) rfl rfl rfl rfl ?_;refine aN [2,1,3,4,5,6,7] 9 mixd ?_;refine gX tv92 [0,1,2] 6 ?_;refine vC 3 rfl (O3_ _ _) rfl fun w5=>?_;have hB5:=Zl_ l tick;refine vE 4 rfl (eC (Ln_ _ _) rfl ?_);generalize hr8:B4_ l (Ed_ l tick)=r;intro w7;have e9:=e0.trans (Ei_ hr8.symm);refine gX tv92 [5,6] 2 ?_;refine vT 7 rfl (sA tv92 ?_);refine gX tv92 [8] 0 ?_;refine vD ?_;refine gx tv92 2 ?_;exact rt2 rfl rfl (J_ (fun r:Mail×Bool=> .tup [.agg (Mail.pc r.1), .bool r.2]) e9 (ple rfl))
theorem Qx_ (l:LineR) (hl:LnOk l:=by assumption):Fn Tryz.prog gb 157 [.agg (LineR.pc l)] (.sl ItemR.pc (Fr_ l)):=by
  refine fC Tryz.func157 tv92 Tryz.ntmps157 fun w N H hG=>?_;have hl0:=hl;obtain⟨hl1,hl2,hl3⟩:=hl0;have e0:=Fr_.eq_1 l;refine gm tv92 21 [0] fun B2=>?_;refine sw_own (t:=3) (k:=9) (e:=75) 1 ItemR.pc rfl rfl ?_;refine loop (ι:=Nat×(List ItemR)×Value) [2,7,8] [0] (fun ⟨k,out,u_out⟩=>[(9, .int .i64 (k:Int)),(3, .osl 1)]) (fun ⟨k,out,u_out⟩=>[(1, .arr u_out 9 75 ItemR.pc out)]) (fun ⟨k,out,u_out⟩=>k<=l.items.length/\Fr_ l=Bv_ (l.items.drop k) out/\out.length<=k) (fun ⟨k,out,u_out⟩=>l.items.length-k) ⟨0,[],(.slice none 0 0)⟩ ⟨rfl,rfl,trivial⟩ ⟨rfl,trivial⟩ ?_ ?_
  · exact⟨Nat.zero_le _,e0,(by first|omega|(simp;done)|(simp;omega))⟩
  rintro⟨k,out,u_out⟩ ⟨hp3_1,hp3_2,hp3_3⟩;refine gx tv92 6 ?_;refine cn rfl (fun p5=>?_) fun p16=>?_
  · have e6:=A7_ (f:=fun zz=>Bv_ zz out) hp3_2 (Es_ (by omega)) (Bv_.eq_2 _ _ _);have hc7:=getG (xs:=l.items) (k:=k) (by omega);have hz_hc7:=(hl2 (gt l.items k) (List.mem_of_getElem? hc7)).1;refine gx tv92 6 ?_;refine q1 (qidx tv92 k rfl rfl rfl hc7 rfl rfl rfl rfl) rfl fun w8=>?_;refine gm tv92 8 [2] fun B10=>?_;refine cV e6 R3_ (G0_ _) rfl fun r hr11 e13 w12=>?_;refine ef (bsl 3 ItemR.pc [r] tv92 rfl rfl rfl rfl rfl (fun _=>rfl) rfl (by decide) (by decide) rfl fun u14=>?_);refine ef (app tv92 [r] rfl rfl rfl rfl rfl rfl rfl rfl rfl (src_o rfl rfl) (by first|omega|(simp;omega)) rfl fun u15=>?_);refine gy tv92 8 ?_;refine next ⟨(k+1),(out++[r]),(u15)⟩ rfl rfl ⟨rfl,rfl,trivial⟩ ⟨rfl,trivial⟩ ?_ ?_
    · (try simp only[]);omega
    exact⟨by (try simp only[]);omega,e13,(by (try simp only[List.length_append,List.length_cons,List.length_nil]);omega)⟩
  have e17:=A7_ (f:=fun zz=>Bv_ zz out) hp3_2 (Et_ (by omega)) (Bv_.eq_1 _);refine gx tv92 11 ?_;refine givec 1 rfl ?_;refine gx tv92 1 ?_;exact rt1 rfl rfl (J_ (fun r:(List ItemR)=> .sl ItemR.pc r) e17 (ple rfl))
theorem H4_ (x:RiseR) (m:Mail) (hx:RiOk x:=by assumption) (hh:m.head.length<=1000000:=by omega):Fn Tryz.prog gb 261 [.agg (RiseR.pc x), .agg (Mail.pc m)] (.tup [.agg (RiseR.pc ((A6_ x m).1)), .int .i64 ((A6_ x m).2)]):=by
  refine fC Tryz.func261 tv92 Tryz.ntmps261 fun w N H hG=>?_;have hx0:=hx;obtain⟨hx1,hx2⟩:=hx0;have e0:=A6_.eq_1 x m;generalize A6_ x m=z at e0 ⊢;refine gm tv92 12 [0,1,2] fun B2=>?_;refine call (J5_ _) rfl rfl fun w5=>?_;have :=Mq_ m;have hmo5:=fun h=>G1_ (m:=m) h;refine gx tv92 9 ?_;refine cN e0 (fun p8 e9=>?_) (fun p12 e13=>?_)
  · refine gm tv92 10 [] fun _=>?_;subst e9;exact qr2
  refine gx tv92 10 ?_;refine cD e13 (fun p15 e16=>?_) (fun p18 e19=>?_)
  · refine gm tv92 9 [] fun _=>?_;subst e16;exact qr2
  refine gx tv92 3 ?_;refine aN [3,4,5,6,7,8] 8 mixd ?_;refine gX tv92 [0,1,2] 5 ?_;refine vE 3 rfl (eC (Ft_ _) rfl ?_);generalize hr21:D_ m=r;intro w20;have e22:=e19.trans (Ei_ hr21.symm);have hr21:=hr21.symm;refine vE 4 rfl (bsl 3 Mail.pc [r] tv92 rfl rfl rfl rfl rfl (fun _=>rfl) rfl (by decide) (by decide) rfl fun u23=>?_);refine vE 5 rfl (Tt_ 3 rfl (bsl 3 (slc Mail.pc) [x.kept,[r]] tv92 rfl rfl rfl rfl rfl (fun _=>rfl) rfl (by decide) (by decide) rfl fun u24=>?_));refine vE 6 rfl (Tt_ 3 rfl (Zb_ (eC (Y6_ _) rfl fun w25=>?_)));have hfl25:([x.kept,[r]].flatten).length=x.kept.length+1:=by simp only[List.flatten_cons,List.flatten_nil,List.length_append,List.length_nil,List.length_cons,Nat.add_zero,Nat.zero_add]
  refine gX tv92 [7] 0 ?_;refine vD ?_;refine gx tv92 2 ?_;refine aN [2,3,4,5,6,7,8] 12 mixd ?_;have :=Kt_ (x.total+1);refine gXy tv92 [0,1,2,3,4,5,6,7] 4 ?_;refine vq 8 (lslo tv92 ((max 0 ((([x.kept,[r]].flatten).length:Int)-16))).toNat rfl rfl rfl rfl rfl (fun _=>rfl) (by (try dsimp only);omega) (by (try dsimp only);omega)) rfl (by kernel_rfl) rfl fun w27=>?_;refine gX tv92 [9] 2 ?_;refine vT 10 rfl (sA tv92 ?_);refine gX tv92 [11] 0 ?_;refine vD ?_;refine gx tv92 2 ?_;subst e22;exact qr2
theorem La_ (x:RiseR) (number:Int) (hx:RiOk x:=by assumption) (hk:x.total=0\/0<x.kept.length:=by first|assumption|omega|decide):Fn Tryz.prog gb 338 [.agg (RiseR.pc x), .int .u64 number] (.tup [.int .u64 ((Ff_ x number).1), .agg (Mail.pc ((Ff_ x number).2.1)), .bool ((Ff_ x number).2.2)]):=by
  refine fC Tryz.func338 tv92 Tryz.ntmps338 fun w N H hG=>?_;have x_total_r:0<=x.total/\x.total<=18446744073709551615:=w.1.1;have x_kept_l:x.kept.length<=140737488355328:=w.1.2.1.1;have number_r:0<=number/\number<=18446744073709551615:=w.2.1;have hx0:=hx;obtain⟨hx1,hx2⟩:=hx0;have e0:=Ff_.eq_1 x number;generalize Ff_ x number=z at e0 ⊢;refine gm tv92 17 [0,1] fun B2=>?_;refine cD e0 (fun p5 e6=>?_) (fun p8 e9=>?_)
  · refine gm tv92 10 [] fun _=>?_;subst e6;exact qr3
  refine gx tv92 9 ?_;refine q1 (qconv tv92 rfl rfl rfl rfl (Tg_ (by omega))) rfl fun w10=>?_;have :=Kt_ (x.total-(x.kept.length:Int));have :=Kt_ ((IntKind.wrap .u64 (x.total-(x.kept.length:Int)))+1);have :=Kt_ (number+1);have :=Kt_ ((max (IntKind.wrap .u64 ((IntKind.wrap .u64 (x.total-(x.kept.length:Int)))+1)) (IntKind.wrap .u64 (number+1)))-(IntKind.wrap .u64 ((IntKind.wrap .u64 (x.total-(x.kept.length:Int)))+1)));have hc11:=getG (xs:=x.kept) (k:=((IntKind.wrap .u64 ((max (IntKind.wrap .u64 ((IntKind.wrap .u64 (x.total-(x.kept.length:Int)))+1)) (IntKind.wrap .u64 (number+1)))-(IntKind.wrap .u64 ((IntKind.wrap .u64 (x.total-(x.kept.length:Int)))+1))))).toNat) (by simp only[IntKind.wrap_u64] at *;omega);have hz_hc11:=hx2 (gt x.kept (((IntKind.wrap .u64 ((max (IntKind.wrap .u64 ((IntKind.wrap .u64 (x.total-(x.kept.length:Int)))+1)) (IntKind.wrap .u64 (number+1)))-(IntKind.wrap .u64 ((IntKind.wrap .u64 (x.total-(x.kept.length:Int)))+1))))).toNat)) (List.mem_of_getElem? hc11);refine gx tv92 22 ?_;refine q1 (qidx tv92 ((IntKind.wrap .u64 ((max (IntKind.wrap .u64 ((IntKind.wrap .u64 (x.total-(x.kept.length:Int)))+1)) (IntKind.wrap .u64 (number+1)))-(IntKind.wrap .u64 ((IntKind.wrap .u64 (x.total-(x.kept.length:Int)))+1))))).toNat rfl rfl (by simp only[IntKind.wrap_u64] at *;omega) hc11 rfl rfl rfl rfl) rfl fun w12=>?_;refine gx tv92 1 ?_;refine cV e9 R1_ (Ft_ _) rfl fun r hr13 e15 w14=>?_;refine gm tv92 6 [] fun _=>?_;subst e15;exact qr3
theorem In_ (x:RiseR):Fn Tryz.prog gb 146 [.agg (RiseR.pc x)] (.int .u64 (Cb_ x)):=by
  refine fC Tryz.func146 tv92 Tryz.ntmps146 fun w N H hG=>?_;have e0:=Cb_.eq_1 x;refine gm tv92 14 [0] fun B2=>?_;exact rt1 rfl rfl (J_ (fun r:Int=> .int .u64 r) e0 (ple rfl))
theorem Iz_ (x:RiseR):Fn Tryz.prog gb 143 [.agg (RiseR.pc x)] (.int .i64 (C2_ x)):=by
  refine fC Tryz.func143 tv92 Tryz.ntmps143 fun w N H hG=>?_;have x_kept_l:x.kept.length<=140737488355328:=w.1.2.1.1;have e0:=C2_.eq_1 x;refine gm tv92 21 [0] fun B2=>?_;refine loop (ι:=Nat×Int) [2,7,8] [0] (fun ⟨k,n⟩=>[(9, .int .i64 (k:Int)),(3, .int .i64 n)]) (fun ⟨k,n⟩=>[]) (fun ⟨k,n⟩=>k<=x.kept.length/\C2_ x=Ba_ (x.kept.drop k) n/\0<=n/\n<=3000*k) (fun ⟨k,n⟩=>x.kept.length-k) ⟨0,0⟩ ⟨rfl,rfl,trivial⟩ trivial ?_ ?_
  · exact⟨Nat.zero_le _,e0,(by first|omega|(simp;done)|(simp;omega))⟩
  rintro⟨k,n⟩ ⟨hp3_1,hp3_2,hp3_3⟩;refine gx tv92 6 ?_;refine cn rfl (fun p5=>?_) fun p15=>?_
  · have e6:=A7_ (f:=fun zz=>Ba_ zz n) hp3_2 (Es_ (by omega)) (Ba_.eq_2 _ _ _);have hc7:=getG (xs:=x.kept) (k:=k) (by omega);refine gx tv92 6 ?_;refine q1 (qidx tv92 k rfl rfl rfl hc7 rfl rfl rfl rfl) rfl fun w8=>?_;refine gm tv92 8 [1] fun B10=>?_;refine cV e6 R0_ (K1_ _) rfl fun r hr11 e13 w12=>?_;have hA13:=Un_ (gt x.kept k)
    (try rw[<- hr11] at hA13)
    refine gy tv92 9 ?_;refine next ⟨(k+1),(n+r)⟩ rfl rfl ⟨rfl,rfl,trivial⟩ trivial ?_ ?_
    · (try simp only[]);omega
    exact⟨by (try simp only[]);omega,e13,by (try simp only[]);omega⟩
  have e16:=A7_ (f:=fun zz=>Ba_ zz n) hp3_2 (Et_ (by omega)) (Ba_.eq_1 _);refine gx tv92 12 ?_;exact rt1 rfl rfl (J_ (fun r:Int=> .int .i64 r) e16 (ple rfl))
theorem Ma_ (x:RiseR) (hx:RiOk x:=by assumption):Fn Tryz.prog gb 147 [.agg (RiseR.pc x)] (.sl Mail.pc (Ea_ x)):=by
  refine fC Tryz.func147 tv92 Tryz.ntmps147 fun w N H hG=>?_;have hx0:=hx;obtain⟨hx1,hx2⟩:=hx0;have e0:=Ea_.eq_1 x;refine gm tv92 21 [0] fun B2=>?_;refine sw_own (t:=3) (k:=7) (e:=71) 1 Mail.pc rfl rfl ?_;refine loop (ι:=Nat×(List Mail)×Value) [2,7,8] [0] (fun ⟨k,out,u_out⟩=>[(9, .int .i64 (k:Int)),(3, .osl 1)]) (fun ⟨k,out,u_out⟩=>[(1, .arr u_out 7 71 Mail.pc out)]) (fun ⟨k,out,u_out⟩=>k<=x.kept.length/\Ea_ x=Ct_ (x.kept.drop k) out/\out.length<=k) (fun ⟨k,out,u_out⟩=>x.kept.length-k) ⟨0,[],(.slice none 0 0)⟩ ⟨rfl,rfl,trivial⟩ ⟨rfl,trivial⟩ ?_ ?_
  · exact⟨Nat.zero_le _,e0,(by first|omega|(simp;done)|(simp;omega))⟩
  rintro⟨k,out,u_out⟩ ⟨hp3_1,hp3_2,hp3_3⟩;refine gx tv92 6 ?_;refine cn rfl (fun p5=>?_) fun p16=>?_
  · have e6:=A7_ (f:=fun zz=>Ct_ zz out) hp3_2 (Es_ (by omega)) (Ct_.eq_2 _ _ _);have hc7:=getG (xs:=x.kept) (k:=k) (by omega);have hz_hc7:=hx2 (gt x.kept k) (List.mem_of_getElem? hc7);refine gx tv92 6 ?_;refine q1 (qidx tv92 k rfl rfl rfl hc7 rfl rfl rfl rfl) rfl fun w8=>?_;refine gm tv92 8 [2] fun B10=>?_;refine cV e6 R1_ (Ft_ _) rfl fun r hr11 e13 w12=>?_;refine ef (bsl 3 Mail.pc [r] tv92 rfl rfl rfl rfl rfl (fun _=>rfl) rfl (by decide) (by decide) rfl fun u14=>?_);refine ef (app tv92 [r] rfl rfl rfl rfl rfl rfl rfl rfl rfl (src_o rfl rfl) (by first|omega|(simp;omega)) rfl fun u15=>?_);refine gy tv92 8 ?_;refine next ⟨(k+1),(out++[r]),(u15)⟩ rfl rfl ⟨rfl,rfl,trivial⟩ ⟨rfl,trivial⟩ ?_ ?_
    · (try simp only[]);omega
    exact⟨by (try simp only[]);omega,e13,(by (try simp only[List.length_append,List.length_cons,List.length_nil]);omega)⟩
  have e17:=A7_ (f:=fun zz=>Ct_ zz out) hp3_2 (Et_ (by omega)) (Ct_.eq_1 _);refine gx tv92 11 ?_;refine givec 1 rfl ?_;refine gx tv92 1 ?_;exact rt1 rfl rfl (J_ (fun r:(List Mail)=> .sl Mail.pc r) e17 (ple rfl))
theorem Qt_ (base:Int) (bytes:Int):Fn Tryz.prog gb 41 [.int .u64 base, .int .i64 bytes] (.agg (E_.pc (Ep_ base bytes))):=by
  refine fC Tryz.func41 tv92 Tryz.ntmps41 fun w N H hG=>?_;have e0:=Ep_.eq_1 base bytes;refine gm tv92 15 [0] fun B2=>?_;exact rt1 rfl rfl (J_ (fun r:E_=> .agg (E_.pc r)) e0 (ple rfl))
theorem No_ (q:QueueR):Fn Tryz.prog gb 193 [.agg (QueueR.pc q)] (.int .i64 (D6_ q)):=by
  refine fC Tryz.func193 tv92 Tryz.ntmps193 fun w N H hG=>?_;have e0:=D6_.eq_1 q;generalize D6_ q=z at e0 ⊢;refine gm tv92 11 [0] fun B2=>?_;refine call (Dd_ _) rfl rfl fun w3=>?_;refine gx tv92 9 ?_;refine cN e0 (fun p6 e7=>?_) (fun p9 e10=>?_)
  · refine gx tv92 8 ?_;subst e7;exact qr1
  refine gy tv92 17 ?_;refine cE e10 (fun h11 e12=>?_) (fun h11 e17=>?_)
  · refine gx tv92 8 ?_;subst e12;exact qr1
  have h13:=orl h11;have p14:=df h13;have h15:=orr h11;have p16:=df h15;refine gx tv92 8 ?_;refine cN e17 (fun p20 e21=>?_) (fun p24 e25=>?_)
  · refine gx tv92 4 ?_;refine call (Dd_ _) rfl rfl fun w22=>?_;refine gx tv92 6 ?_;subst e21;exact qr1
  refine gx tv92 9 ?_;subst e25;exact qr1
theorem Yx_ (x:RowR) (x1:Bs):Fn Tryz.prog gb 254 [.agg (RowR.pc x), .el [.str x1] 0] (.bool (He_ x x1)):=by
  refine fC Tryz.func254 tv92 Tryz.ntmps254 fun w N H hG=>?_;have e0:=He_.eq_1 x x1;refine gm tv92 17 [0] fun B2=>?_;exact rt1 rfl rfl (J_ (fun r:Bool=> .bool r) e0 (ple rfl))
theorem Dc_ (s:E_) (name:Bs):Fn Tryz.prog gb 194 [.agg (E_.pc s), .str name] (.int .i64 (K_ s name)):=by
  refine fC Tryz.func194 tv92 Tryz.ntmps194 fun w N H hG=>?_;have e0:=K_.eq_1 s name;refine gm tv92 11 [0,1] fun B2=>?_;refine freeze (i:=1) (t:=3) rfl rfl rfl rfl ?_;refine gx tv92 1 ?_;refine call (idxF_row _ _ _ _ (fun z_4:RowR=>(He_ z_4 name)) (fun z_4=>Yx_ z_4 name)) rfl rfl fun w5=>?_;have hix5:=H8_ (fun z_4:RowR=>(He_ z_4 name)) s.rows;refine gx tv92 4 ?_;exact rt1 rfl rfl (J_ (fun r:Int=> .int .i64 r) e0 (ple rfl))
theorem fl242_1:Fld Tryz.prog 242 1 4:=fun b o w=>by kernel_rfl
theorem sz47:Sz Tryz.prog 47 2:=fun w=>by kernel_rfl
abbrev ty48:TI:=⟨.arr,32,512,[.int .u64 0, .sl Mail.pc [], .int .u64 0, .sl Mail.pc [], .int .u64 0, .sl Mail.pc [], .int .u64 0, .sl Mail.pc [], .int .u64 0, .sl Mail.pc [], .int .u64 0, .sl Mail.pc [], .int .u64 0, .sl Mail.pc [], .int .u64 0, .sl Mail.pc [], .int .u64 0, .sl Mail.pc [], .int .u64 0, .sl Mail.pc [], .int .u64 0, .sl Mail.pc [], .int .u64 0, .sl Mail.pc [], .int .u64 0, .sl Mail.pc [], .int .u64 0, .sl Mail.pc [], .int .u64 0, .sl Mail.pc [], .int .u64 0, .sl Mail.pc []]⟩
abbrev ty187:TI:=⟨.slc 66,1,24,[.sl QueueR.pc []]⟩
def tbv93:Tb:=[(9,ty9),(22,ty22),(44,ty44),(47,ty47),(48,ty48),(50,ty50),(66,ty66),(187,ty187),(240,Wh_),(242,ty242),(360,ty360)]
theorem tv93:tbB Tryz.prog tbv93=true:=by kernel_rfl
theorem Kq_ (s:E_) (q:QueueR):Fn Tryz.prog gb 114 [.agg (E_.pc s), .agg (QueueR.pc q)] (.tup [.agg (E_.pc ((Bw_ s q).1)), .int .i64 ((Bw_ s q).2)]):=by
  refine fC Tryz.func114 tv93 Tryz.ntmps114 fun w N H hG=>?_;have e0:=Bw_.eq_1 s q;generalize Bw_ s q=z at e0 ⊢;refine gm tv93 12 [0,1,2] fun B2=>?_;refine cV e0 R0_ (No_ _) rfl fun r hr5 e7 w6=>?_;refine gx tv93 9 ?_;refine cN e7 (fun p10 e11=>?_) (fun p14 e15=>?_)
  · refine gm tv93 10 [] fun _=>?_;subst e11;exact qr2
  refine gx tv93 8 ?_;refine cV e15 R0_ (Dc_ _ _) rfl fun r1 hr16 e18 w17=>?_;have hA18:=at_b s q.name
  (try rw[<- hr16] at hA18)
  refine gx tv93 5 ?_;refine aN [3,4,5,6,7,8] 13 mixd ?_;refine gXy tv93 [0,1,2,3,4,5] 7 ?_;refine vqg 6 [23,24] rfl (by kernel_rfl) rfl rfl (fun hc=>qidx tv93 (r1).toNat rfl rfl (by first|omega|(simp only[gOf,bl2] at *;omega)) (getG (by first|omega|(simp only[gOf,bl2] at *;omega))) rfl rfl rfl rfl) ⟨(fun hc=>hc),(fun hc=>hc),trivial⟩ rfl fun _=>?_;refine gXy tv93 [7,8,9] 3 ?_;refine vqg 10 [27,28] rfl (by kernel_rfl) rfl rfl (fun hc=>saeq rfl rfl eqg66 (veq66 ((gt s.rows ((r1).toNat)).q) q)) ⟨(fun hc=>hc),(fun hc=>hc),trivial⟩ rfl fun _=>?_;refine gXy tv93 [11,12] 0 ?_;refine vD ?_;refine gx tv93 1 ?_;refine cE e18 (fun h20 e25=>?_) (fun h20 e27=>?_)
  · have h21:=bl h20;have p22:=dt h21;have h23:=br h20;have p24:=dt h23;refine gm tv93 10 [] fun _=>?_;subst e25;exact qr2
  refine gx tv93 7 ?_;refine cD e27 (fun p29 e30=>?_) (fun p32 e33=>?_)
  · refine gm tv93 10 [] fun _=>?_;subst e30;exact qr2
  refine gx tv93 9 ?_;refine cD e33 (fun p35 e36=>?_) (fun p38 e39=>?_)
  · refine gm tv93 10 [] fun _=>?_;subst e36;exact qr2
  refine gx tv93 9 ?_;refine ef (bsl 3 RowR.pc [(⟨q,(⟨[]⟩:LineR)⟩:RowR)] tv93 rfl rfl rfl rfl rfl (fun _=>rfl) rfl (by decide) (by decide) rfl fun u40=>?_);refine give 3 rfl ?_;refine ef (bsl 3 (slc RowR.pc) [s.rows,[(⟨q,(⟨[]⟩:LineR)⟩:RowR)]] tv93 rfl rfl rfl rfl rfl (fun _=>rfl) rfl (by decide) (by decide) rfl fun u41=>?_);refine give 3 rfl ?_;refine call (T5_ _) rfl rfl fun w42=>?_;have hfl42:([s.rows,[(⟨q,(⟨[]⟩:LineR)⟩:RowR)]].flatten).length=s.rows.length+1:=by simp only[List.flatten_cons,List.flatten_nil,List.length_append,List.length_nil,List.length_cons,Nat.add_zero,Nat.zero_add]
  refine gm tv93 12 [] fun _=>?_;subst e39;exact qr2
theorem N9_ (s:E_) (name:Bs) (hs:s.rows.length<=1000:=by first|omega|(simp;omega)|decide +kernel):Fn Tryz.prog gb 115 [.agg (E_.pc s), .str name] (.tup [.agg (E_.pc ((Cd_ s name).1)), .int .i64 ((Cd_ s name).2)]):=by
  refine fC Tryz.func115 tv93 Tryz.ntmps115 fun w N H hG=>?_;have e0:=Cd_.eq_1 s name;generalize Cd_ s name=z at e0 ⊢;refine gm tv93 11 [0,1] fun B2=>?_;refine cV e0 R0_ (Dc_ _ _) rfl fun r hr4 e6 w5=>?_;have hA6:=at_b s name
  (try rw[<- hr4] at hA6)
  refine gx tv93 10 ?_;refine cD e6 (fun p9 e10=>?_) (fun p12 e13=>?_)
  · refine gm tv93 9 [] fun _=>?_;subst e10;exact qr2
  refine gx tv93 3 ?_;refine aN [2,3,4,5,6,7] 13 mixd ?_;refine gX tv93 [0,1,2] 10 ?_;refine vq 3 (lshi tv93 (r).toNat rfl rfl rfl rfl rfl (fun _=>rfl) (by omega) (by omega)) rfl (by kernel_rfl) rfl fun w14=>?_;refine gXy tv93 [4,5,6,7] 5 ?_;refine vq 8 (lslo tv93 ((r+1)).toNat rfl rfl rfl rfl rfl (fun _=>rfl) (by omega) (by omega)) rfl (by kernel_rfl) rfl fun w15=>?_;refine vE 9 rfl (bsl 2 (slc RowR.pc) [(s.rows.take (r).toNat),(s.rows.drop ((r+1)).toNat)] tv93 rfl rfl rfl rfl rfl (fun _=>rfl) rfl (by decide) (by decide) rfl fun u16=>?_);refine vE 10 rfl (Tt_ 2 rfl (Zb_ (eC (T5_ _) rfl fun w17=>?_)));have hfl17:([(s.rows.take (r).toNat),(s.rows.drop ((r+1)).toNat)].flatten).length=(s.rows.take (r).toNat).length+(s.rows.drop ((r+1)).toNat).length:=by simp only[List.flatten_cons,List.flatten_nil,List.length_append,List.length_nil,List.length_cons,Nat.add_zero,Nat.zero_add]
  refine gX tv93 [11] 1 ?_;refine vT 12 rfl (sO tv93 ?_);refine vD ?_;refine gm tv93 9 [] fun _=>?_;subst e13;exact qr2
theorem Eq_ (s:E_) (name:Bs):Fn Tryz.prog gb 120 [.agg (E_.pc s), .str name] (.tup [.agg (QueueR.pc ((V_ s name).1)), .bool ((V_ s name).2)]):=by
  refine fC Tryz.func120 tv93 Tryz.ntmps120 fun w N H hG=>?_;have e0:=V_.eq_1 s name;generalize V_ s name=z at e0 ⊢;refine gm tv93 11 [0,1] fun B2=>?_;refine cV e0 R0_ (Dc_ _ _) rfl fun r hr4 e6 w5=>?_;have hA6:=at_b s name
  (try rw[<- hr4] at hA6)
  refine gx tv93 10 ?_;refine cD e6 (fun p9 e10=>?_) (fun p12 e13=>?_)
  · refine gm tv93 9 [] fun _=>?_;subst e10;exact qr2
  have hc14:=getG (xs:=s.rows) (k:=(r).toNat) (by omega);refine gx tv93 7 ?_;refine q1 (qidx tv93 (r).toNat rfl rfl (by omega) hc14 rfl rfl rfl rfl) rfl fun w15=>?_;refine gm tv93 7 [] fun _=>?_;subst e13;exact qr2
theorem Jj_ (s:E_) (hs:s.rows.length<=1000:=by first|omega|(simp;omega)|decide +kernel):Fn Tryz.prog gb 89 [.agg (E_.pc s)] (.sl QueueR.pc (Ax_ s)):=by
  refine fC Tryz.func89 tv93 Tryz.ntmps89 fun w N H hG=>?_;have e0:=Ax_.eq_1 s;refine gm tv93 21 [0] fun B2=>?_;refine sw_own (t:=3) (k:=4) (e:=66) 1 QueueR.pc rfl rfl ?_;refine loop (ι:=Nat×(List QueueR)×Value) [2,7,8] [0] (fun ⟨k,out,u_out⟩=>[(9, .int .i64 (k:Int)),(3, .osl 1)]) (fun ⟨k,out,u_out⟩=>[(1, .arr u_out 4 66 QueueR.pc out)]) (fun ⟨k,out,u_out⟩=>k<=s.rows.length/\Ax_ s=Ad_ (s.rows.drop k) out/\out.length<=k) (fun ⟨k,out,u_out⟩=>s.rows.length-k) ⟨0,[],(.slice none 0 0)⟩ ⟨rfl,rfl,trivial⟩ ⟨rfl,trivial⟩ ?_ ?_
  · exact⟨Nat.zero_le _,e0,(by first|omega|(simp;done)|(simp;omega))⟩
  rintro⟨k,out,u_out⟩ ⟨hp3_1,hp3_2,hp3_3⟩;refine gx tv93 6 ?_;refine cn rfl (fun p5=>?_) fun p13=>?_
  · have e6:=A7_ (f:=fun zz=>Ad_ zz out) hp3_2 (Es_ (by omega)) (Ad_.eq_2 _ _ _);have hc7:=getG (xs:=s.rows) (k:=k) (by omega);refine gx tv93 6 ?_;refine q1 (qidx tv93 k rfl rfl rfl hc7 rfl rfl rfl rfl) rfl fun w8=>?_;refine gm tv93 9 [2] fun B10=>?_;refine ef (bsl 3 QueueR.pc [(gt s.rows k).q] tv93 rfl rfl rfl rfl rfl (fun _=>rfl) rfl (by decide) (by decide) rfl fun u11=>?_);refine ef (app tv93 [(gt s.rows k).q] rfl rfl rfl rfl rfl rfl rfl rfl rfl (src_o rfl rfl) (by first|omega|(simp;omega)) rfl fun u12=>?_);refine gy tv93 8 ?_;refine next ⟨(k+1),(out++[(gt s.rows k).q]),(u12)⟩ rfl rfl ⟨rfl,rfl,trivial⟩ ⟨rfl,trivial⟩ ?_ ?_
    · (try simp only[]);omega
    exact⟨by (try simp only[]);omega,e6,(by (try simp only[List.length_append,List.length_cons,List.length_nil]);omega)⟩
  have e14:=A7_ (f:=fun zz=>Ad_ zz out) hp3_2 (Et_ (by omega)) (Ad_.eq_1 _);refine gx tv93 11 ?_;refine givec 1 rfl ?_;refine gx tv93 1 ?_;exact rt1 rfl rfl (J_ (fun r:(List QueueR)=> .sl QueueR.pc r) e14 (ple rfl))
theorem Kp_ (s:E_) (name:Bs):Fn Tryz.prog gb 138 [.agg (E_.pc s), .str name] (.agg (LineR.pc (Ap_ s name))):=by
  refine fC Tryz.func138 tv93 Tryz.ntmps138 fun w N H hG=>?_;have e0:=Ap_.eq_1 s name;generalize Ap_ s name=z at e0 ⊢;refine gm tv93 10 [0,1] fun B2=>?_;refine cV e0 R0_ (Dc_ _ _) rfl fun r hr4 e6 w5=>?_;have hA6:=at_b s name
  (try rw[<- hr4] at hA6)
  refine gx tv93 10 ?_;refine cD e6 (fun p9 e10=>?_) (fun p12 e13=>?_)
  · refine gm tv93 8 [] fun _=>?_;subst e10;exact qr1
  have hc14:=getG (xs:=s.rows) (k:=(r).toNat) (by omega);refine gx tv93 7 ?_;refine q1 (qidx tv93 (r).toNat rfl rfl (by omega) hc14 rfl rfl rfl rfl) rfl fun w15=>?_;refine gm tv93 6 [] fun _=>?_;subst e13;exact qr1
theorem Kr_ (s:E_) (place:Int):Fn Tryz.prog gb 140 [.agg (E_.pc s), .int .i64 place] (.agg (RiseR.pc (Bd_ s place))):=by
  refine fC Tryz.func140 tv93 Tryz.ntmps140 fun w N H hG=>?_;have e0:=Bd_.eq_1 s place;generalize Bd_ s place=z at e0 ⊢;refine gmy tv93 17 [0,1] fun B2=>?_;refine cE e0 (fun h4 e5=>?_) (fun h4 e11=>?_)
  · refine gm tv93 8 [] fun _=>?_;subst e5;exact qr1
  have h7:=orl h4;have p8:=df h7;have h9:=orr h4;have p10:=df h9;refine gx tv93 6 ?_;refine q1 (qaia (place).toNat rfl rfl Tryz.underlying48 sz47 (by omega) (by omega)) rfl fun w12=>?_;refine ef (S1_ (sz:=2) (len:=16) (fun q=>[.int .u64 ((A16.get s.rises q).total), .sl Mail.pc ((A16.get s.rises q).kept)]) ((place).toNat) 3 2 0 tv93 rfl rfl rfl rfl rfl rfl rfl (by omega) (bw16 rfl rfl rfl rfl rfl rfl rfl rfl rfl rfl rfl rfl rfl rfl rfl rfl) (bw16 rfl rfl rfl rfl rfl rfl rfl rfl rfl rfl rfl rfl rfl rfl rfl rfl) rfl fun w13=>?_);refine gm tv93 4 [] fun _=>?_;subst e11;exact qr1
theorem Fh_ (s:E_) (k:Int) (l:LineR) (hs:s.rows.length<=1000:=by first|omega|(simp;omega)|decide +kernel) (hk:0<=k/\k<s.rows.length:=by omega):Fn Tryz.prog gb 127 [.agg (E_.pc s), .int .i64 k, .agg (LineR.pc l)] (.agg (E_.pc (Z_ s k l))):=by
  refine fC Tryz.func127 tv93 Tryz.ntmps127 fun w N H hG=>?_;have e0:=Z_.eq_1 s k l;refine gm tv93 11 [0,1,2] fun B2=>?_;refine ef (ecallo 3 (oclone_row _) rfl rfl fun u6 w5=>?_);refine gx tv93 1 ?_;refine so_osl (t:=9) 3 rfl rfl ?_;refine ef (H7_ tv93 rfl rfl rfl rfl rfl rfl rfl rfl rfl ?_);refine gx tv93 8 ?_;refine q1 (eidx (k).toNat tv93 rfl rfl rfl rfl rfl rfl rfl (by omega) (by omega)) rfl fun w7=>?_;refine q1 (efld rfl fl242_1) rfl fun w8=>?_;have hc9:=getG (xs:=s.rows) (k:=(k).toNat) (by omega);refine ef (estA (i:=3) ((k).toNat) 4 (⟨(gt s.rows ((k).toNat)).q,l⟩:RowR) tv93 rfl rfl rfl rfl rfl rfl (by omega) rfl (Nat.le_of_ble_eq_true rfl) (fun _ h=>by obtain rfl :=Option.some.inj (h.symm.trans hc9);rfl) ?_);have hset9:(s.rows.set ((k).toNat) (⟨(gt s.rows ((k).toNat)).q,l⟩:RowR)).length=s.rows.length:=List.length_set ..;refine gx tv93 4 ?_;refine give 3 rfl ?_;refine gm tv93 5 [] fun _=>?_;exact rt1 rfl rfl (J_ (fun r:E_=> .agg (E_.pc r)) e0 (ple rfl))
theorem Gi_ (s:E_) (hs:StkOk s:=by first|assumption|exact StOk.stk (by assumption)):Fn Tryz.prog gb 59 [.agg (E_.pc s)] (.int .i64 (M_ s)):=by
  refine fC Tryz.func59 tv93 Tryz.ntmps59 fun w N H hG=>?_;have hs0:=hs;obtain⟨⟨hs1,hs2,hs3⟩,hs4,hs5,hs6⟩:=hs0;have e0:=M_.eq_1 s;refine gm tv93 21 [0] fun B2=>?_;refine loop (ι:=Nat×Int) [1,2,9,10] [0] (fun ⟨k,n⟩=>[(11, .int .i64 (k:Int)),(3, .int .i64 n)]) (fun ⟨k,n⟩=>[]) (fun ⟨k,n⟩=>k<=s.rows.length/\M_ s=An_ s (s.rows.drop k) n/\0<=n/\n<=200000*k) (fun ⟨k,n⟩=>s.rows.length-k) ⟨0,0⟩ ⟨rfl,rfl,trivial⟩ trivial ?_ ?_
  · exact⟨Nat.zero_le _,e0,(by first|omega|(simp;done)|(simp;omega))⟩
  rintro⟨k,n⟩ ⟨hp3_1,hp3_2,hp3_3⟩;refine gx tv93 6 ?_;refine cn rfl (fun p5=>?_) fun p15=>?_
  · have e6:=A7_ (f:=fun zz=>An_ s zz n) hp3_2 (Es_ (by omega)) (An_.eq_2 _ _ _ _);have hc7:=getG (xs:=s.rows) (k:=k) (by omega);have hz_hc7:=RwsOk.at hs.1 hc7;have hy_hc7:=hz_hc7.1;refine gx tv93 6 ?_;refine q1 (qidx tv93 k rfl rfl rfl hc7 rfl rfl rfl rfl) rfl fun w8=>?_;refine gm tv93 9 [1] fun B10=>?_;refine cV e6 R0_ (P2_ _) rfl fun r hr11 e13 w12=>?_;have hA13:=lsize_r ((gt s.rows k).l)
    (try rw[<- hr11] at hA13)
    refine gy tv93 9 ?_;refine next ⟨(k+1),(n+r)⟩ rfl rfl ⟨rfl,rfl,trivial⟩ trivial ?_ ?_
    · (try simp only[]);omega
    exact⟨by (try simp only[]);omega,e13,by (try simp only[]);omega⟩
  have e16:=A7_ (f:=fun zz=>An_ s zz n) hp3_2 (Et_ (by omega)) (An_.eq_1 _ _);refine gx tv93 14 ?_;refine loop (ι:=Nat×Int×Nat) [2,22] [0] (fun ⟨f,n1,v⟩=>[(3, .int .i64 n1),(23, .int .i64 (v:Int))]) (fun ⟨f,n1,v⟩=>[]) (fun ⟨f,n1,v⟩=>16-v<f/\M_ s=B6_ s f n1 v/\0<=n1/\n1<=1600000+48000*v) (fun ⟨f,n1,v⟩=>f) ⟨(16-0+1),n,0⟩ ⟨rfl,rfl,trivial⟩ trivial ?_ ?_
  · exact⟨Nat.lt_succ_self _,e16,by (try simp only[]);omega⟩
  rintro⟨f,n1,v⟩ ⟨hp17_1,hp17_2,hp17_3⟩;obtain⟨f1,rfl⟩:∃ q,f=q+1:=⟨f-1,by omega⟩;have e_f1:=hp17_2.trans (B6_.eq_2 _ _ _ _);refine gx tv93 6 ?_;refine cD e_f1 (fun p19 e20=>?_) (fun p29 e30=>?_)
  · refine gx tv93 6 ?_;refine q1 (qaivA (fun q=>[.int .u64 ((A16.get s.rises q).total), .sl Mail.pc ((A16.get s.rises q).kept)]) v tv93 rfl rfl Tryz.underlying48 rfl rfl rfl rfl (by omega) (bw16 rfl rfl rfl rfl rfl rfl rfl rfl rfl rfl rfl rfl rfl rfl rfl rfl)) rfl fun w21=>?_;refine gm tv93 7 [1] fun B23=>?_;refine cV e20 R0_ (Iz_ _) rfl fun r1 hr24 e26 w25=>?_;have hA26:=Wb_ (A16.get s.rises v)
    (try rw[<- hr24] at hA26)
    (try have hB27:=(show RiOk (A16.get s.rises v) by first|assumption|exact hs4 _ (by omega)).1)
    refine gy tv93 9 ?_;refine next ⟨f1,(n1+r1),(v+1)⟩ rfl rfl ⟨rfl,rfl,trivial⟩ trivial ?_ ?_
    · (try simp only[]);omega
    exact⟨by (try simp only[]);omega,e26,by (try simp only[]);omega⟩
  refine gx tv93 12 ?_;exact rt1 rfl rfl (J_ (fun r:Int=> .int .i64 r) e30 (ple rfl))
theorem Oc_ (s:E_):Fn Tryz.prog gb 70 [.agg (E_.pc s)] (.int .u64 (Fn_ s)):=by
  refine fC Tryz.func70 tv93 Tryz.ntmps70 fun w N H hG=>?_;have e0:=Fn_.eq_1 s;refine gm tv93 14 [0] fun B2=>?_;exact rt1 rfl rfl (J_ (fun r:Int=> .int .u64 r) e0 (ple rfl))
def tbv93b:Tb:=[(3,ty3),(50,ty50)]
theorem Pj_:tbB Tryz.prog tbv93b=true:=by kernel_rfl
theorem Ks_ (s:E_) (hs:StkOk s:=by first|assumption|exact StOk.stk (by assumption)):Fn Tryz.prog gb 136 [.agg (E_.pc s)] (.int .i64 (C6_ s)):=by
  refine fC Tryz.func136 Pj_ Tryz.ntmps136 fun w N H hG=>?_;have hs0:=hs;obtain⟨⟨hs1,hs2,hs3⟩,hs4,hs5,hs6⟩:=hs0;have e0:=C6_.eq_1 s;refine gm Pj_ 7 [0] fun B2=>?_;refine aN [1,2,3,4,5,6] 6 mixd ?_;refine gX Pj_ [0,1,2] 3 ?_;refine vC 3 rfl (Gi_ _) rfl fun w3=>?_;have hB3:=Pw_ s (by assumption);refine gXy Pj_ [4,5] 0 ?_;refine vD ?_;refine gx Pj_ 2 ?_;exact rt1 rfl rfl (J_ (fun r:Int=> .int .i64 r) e0 (ple rfl))
end Go.SW.V
