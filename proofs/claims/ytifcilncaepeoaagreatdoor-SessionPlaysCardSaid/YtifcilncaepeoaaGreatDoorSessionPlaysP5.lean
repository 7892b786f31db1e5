/-
  A part of the proof of SessionPlays: The walks of this seat, printed by program: reply.blank, reply.Reply.spare, reply.mail, reply.Reply.Check, reply.Reply.Frame.
-/
import Derived.Test.YtifcilncaepeoaaGreatDoorProg
import Derived.KernelRfl
import Derived.Test.YtifcilncaepeoaaGreatDoorSessionPlaysP4
import Derived.Test.YtifcilncaepeoaaGreatDoorSessionPlaysP3
import Derived.Test.YtifcilncaepeoaaGreatDoorSessionPlaysP2
set_option linter.unusedVariables false
set_option linter.unusedSimpArgs false
set_option maxRecDepth 100000
set_option maxHeartbeats 4000000
namespace Go.SW.V
open Go.SW Go.Proofs
abbrev ty51:TI:=⟨.agg [(0,1),(1,1),(2,1),(3,1),(4,1),(5,1),(6,1)],7,96,[.int .u64 0, .str [], .str [], .sl Pair.pc [], .str [], .int .u64 0, .int .u8 0]⟩
abbrev Uw_:TI:=⟨.agg [(0,1),(1,1),(2,1),(3,1),(4,1),(5,1),(6,7)],13,144,[.int .u8 0, .int .u8 0, .int .u64 0, .int .u64 0, .bool false, .str [], .int .u64 0, .str [], .str [], .sl Pair.pc [], .str [], .int .u64 0, .int .u8 0]⟩
def tbv11:Tb:=[(4,ty4),(5,ty5),(9,ty9),(27,ty27),(47,ty47),(51,ty51),(137,Uw_),(158,Tl_),(285,We_)]
theorem tv11:tbB Tryz.prog tbv11=true:=by kernel_rfl
theorem Yn_ (m:Mail):Fn Tryz.prog gb 250 [.agg (Mail.pc m)] (.bool (Oo_ m)):=by
  refine fC Tryz.func250 tv11 Tryz.ntmps250 fun w N H hG=>?_;refine gmy tv11 31 [0] fun B2=>?_;refine rt1 rfl rfl (ple ?_);refine congrArg PV.bool ?_
  first|(simp[Oo_, *];done)|(rw[Bool.eq_iff_iff];simp[Oo_, *];done)|(rw[Bool.eq_iff_iff];simp[Oo_];grind)
theorem Zj_ (r:Reply):Fn Tryz.prog gb 228 [.agg (Reply.pc r)] (.bool (Es_ r)):=by
  refine fC Tryz.func228 tv11 Tryz.ntmps228 fun w N H hG=>?_;refine gmy tv11 27 [0] fun B2=>?_;refine cnd rfl (fun h3=>?_) (fun h3=>?_)
  · refine gx tv11 7 ?_;refine rt1 rfl rfl (ple ?_);refine congrArg PV.bool ?_
    first|(simp[Es_, *];done)|(rw[Bool.eq_iff_iff];simp[Es_, *];done)|(rw[Bool.eq_iff_iff];simp[Es_];grind)
  have h4:=orl h3;have h5:=orl h4;have h6:=Bf_ h5;have p7:=dt h6;have h8:=orr h4;have h9:=Bf_ h8;have p10:=dt h9;have h11:=orr h3;have h12:=Bf_ h11;have p13:=dt h12;refine gy tv11 30 ?_;refine callg rfl (fun hc=>(Yn_ _)) rfl ⟨(fun hc=>hc),trivial⟩ rfl rfl fun _=>?_;refine gy tv11 6 ?_;refine cnd rfl (fun h14=>?_) (fun h14=>?_)
  · refine gx tv11 7 ?_;refine rt1 rfl rfl (ple ?_);refine congrArg PV.bool ?_
    first|(simp[Es_, *];done)|(rw[Bool.eq_iff_iff];simp[Es_, *];done)|(rw[Bool.eq_iff_iff];simp[Es_];grind)
  have h15:=orl h14;have h16:=orr h14;refine gx tv11 17 ?_;refine cnd rfl (fun h17=>?_) (fun h17=>?_)
  · have p18:=dt h17;refine gx tv11 2 ?_;refine cndT rfl h17 ?_;refine gx tv11 8 ?_;refine rt1 rfl rfl (ple ?_);refine congrArg PV.bool ?_
    first|(simp[Es_, *];done)|(rw[Bool.eq_iff_iff];simp[Es_, *];done)|(rw[Bool.eq_iff_iff];simp[Es_];grind)
  have p19:=df h17;refine gx tv11 5 ?_;refine cn rfl (fun p21=>?_) fun p22=>?_
  · refine gx tv11 8 ?_;refine rt1 rfl rfl (ple ?_);refine congrArg PV.bool ?_
    first|(simp[Es_, *];done)|(rw[Bool.eq_iff_iff];simp[Es_, *];done)|(rw[Bool.eq_iff_iff];simp[Es_];grind)
  refine gx tv11 7 ?_;refine cnd rfl (fun h23=>?_) (fun h23=>?_)
  · have p24:=dt h23;refine gx tv11 2 ?_;refine cndT rfl h23 ?_;refine gx tv11 11 ?_;refine rt1 rfl rfl (ple ?_);refine congrArg PV.bool ?_
    first|(simp[Es_, *];done)|(rw[Bool.eq_iff_iff];simp[Es_, *];done)|(rw[Bool.eq_iff_iff];simp[Es_];grind)
  have p25:=df h23;refine gx tv11 6 ?_;refine cnd rfl (fun h26=>?_) (fun h26=>?_)
  · have p27:=dt h26;refine gx tv11 2 ?_;refine cndT rfl h26 ?_;refine gx tv11 11 ?_;refine rt1 rfl rfl (ple ?_);refine congrArg PV.bool ?_
    first|(simp[Es_, *];done)|(rw[Bool.eq_iff_iff];simp[Es_, *];done)|(rw[Bool.eq_iff_iff];simp[Es_];grind)
  have p28:=df h26;refine gx tv11 5 ?_;refine cn rfl (fun p30=>?_) fun p31=>?_
  · refine gx tv11 11 ?_;refine rt1 rfl rfl (ple ?_);refine congrArg PV.bool ?_
    first|(simp[Es_, *];done)|(rw[Bool.eq_iff_iff];simp[Es_, *];done)|(rw[Bool.eq_iff_iff];simp[Es_];grind)
  refine gy tv11 17 ?_;refine rt1 rfl rfl (ple ?_);refine congrArg PV.bool ?_
  first|(simp[Es_, *];done)|(rw[Bool.eq_iff_iff];simp[Es_, *];done)|(rw[Bool.eq_iff_iff];simp[Es_];grind)
theorem reply_mail (m:Mail):Fn Tryz.prog gb 229 [.agg (Mail.pc m)] (.int .i64 (Rm_ m)):=by
  refine fC Tryz.func229 tv11 Tryz.ntmps229 fun w N H hG=>?_;refine gm tv11 10 [0] fun B2=>?_;refine call (Ck_ _) rfl rfl fun w3=>?_;refine gx tv11 10 ?_;refine cnd rfl (fun h4=>?_) (fun h4=>?_)
  · have p5:=dt h4;refine gx tv11 3 ?_;refine call (Mi_ _) rfl rfl fun w6=>?_;refine gx tv11 10 ?_;refine cnd rfl (fun h7=>?_) (fun h7=>?_)
    · have p8:=dt h7;refine gx tv11 3 ?_;refine call (Gj_ _) rfl rfl fun w9=>?_;refine gy tv11 16 ?_;refine cnd rfl (fun h10=>?_) (fun h10=>?_)
      · have h11:=bl h10;have p12:=dt h11;have h13:=br h10;have p14:=dt h13;refine gx tv11 11 ?_;refine rt1 rfl rfl (ple ?_);refine congrArg (PV.int .i64) ?_
        simp only[bl1] at *
        unfold Rm_
        (repeat' split)<;>first|rfl|(exfalso;omega)|(exfalso;simp_all;done)|(exfalso;simp_all;omega)|grind
      refine gx tv11 9 ?_;refine rt1 rfl rfl (ple ?_);refine congrArg (PV.int .i64) ?_
      simp only[bl1] at *
      unfold Rm_
      (repeat' split)<;>first|rfl|(exfalso;omega)|(exfalso;simp_all;done)|(exfalso;simp_all;omega)|grind
    have p15:=df h7;refine gy tv11 15 ?_;refine cnd rfl (fun h16=>?_) (fun h16=>?_)
    · have h17:=bl h16;have p18:=dt h17;have h19:=br h16;have p20:=dt h19;refine gx tv11 11 ?_;refine rt1 rfl rfl (ple ?_);refine congrArg (PV.int .i64) ?_
      simp only[bl1] at *
      unfold Rm_
      (repeat' split)<;>first|rfl|(exfalso;omega)|(exfalso;simp_all;done)|(exfalso;simp_all;omega)|grind
    refine gx tv11 9 ?_;refine rt1 rfl rfl (ple ?_);refine congrArg (PV.int .i64) ?_
    simp only[bl1] at *
    unfold Rm_
    (repeat' split)<;>first|rfl|(exfalso;omega)|(exfalso;simp_all;done)|(exfalso;simp_all;omega)|grind
  have p21:=df h4;refine gx tv11 9 ?_;refine cndF rfl h4 ?_;refine gy tv11 15 ?_;refine cnd rfl (fun h22=>?_) (fun h22=>?_)
  · have h23:=bl h22;have p24:=dt h23;have h25:=br h22;have p26:=dt h25;refine gx tv11 11 ?_;refine rt1 rfl rfl (ple ?_);refine congrArg (PV.int .i64) ?_
    simp only[bl1] at *
    unfold Rm_
    (repeat' split)<;>first|rfl|(exfalso;omega)|(exfalso;simp_all;done)|(exfalso;simp_all;omega)|grind
  refine gx tv11 9 ?_;refine rt1 rfl rfl (ple ?_);refine congrArg (PV.int .i64) ?_
  simp only[bl1] at *
  unfold Rm_
  (repeat' split)<;>first|rfl|(exfalso;omega)|(exfalso;simp_all;done)|(exfalso;simp_all;omega)|grind
theorem Ym_ (r:Reply):Fn Tryz.prog gb 189 [.agg (Reply.pc r)] (.int .i64 (Kb_ r)):=by
  refine fC Tryz.func189 tv11 Tryz.ntmps189 fun w N H hG=>?_;refine gm tv11 16 [0] fun B2=>?_;refine cnd rfl (fun h3=>?_) (fun h3=>?_)
  · have p4:=dt h3;refine gx tv11 8 ?_;refine rt1 rfl rfl (ple ?_);refine congrArg (PV.int .i64) ?_
    simp only[bl1] at *
    unfold Kb_
    (repeat' split)<;>first|rfl|(exfalso;omega)|(exfalso;simp_all;done)|(exfalso;simp_all;omega)|grind
  have p5:=df h3;refine gx tv11 3 ?_;refine call (Zj_ _) rfl rfl fun w6=>?_;refine gx tv11 3 ?_;refine cnd rfl (fun h7=>?_) (fun h7=>?_)
  · refine gx tv11 8 ?_;refine rt1 rfl rfl (ple ?_);refine congrArg (PV.int .i64) ?_
    simp only[bl1] at *
    unfold Kb_
    (repeat' split)<;>first|rfl|(exfalso;omega)|(exfalso;simp_all;done)|(exfalso;simp_all;omega)|grind
  refine gx tv11 8 ?_;refine cnd rfl (fun h8=>?_) (fun h8=>?_)
  · have p9:=dt h8;refine gx tv11 4 ?_;refine call (Ck_ _) rfl rfl fun w10=>?_;refine gx tv11 6 ?_;refine rt1 rfl rfl (ple ?_);refine congrArg (PV.int .i64) ?_
    simp only[bl1] at *
    unfold Kb_
    (repeat' split)<;>first|rfl|(exfalso;omega)|(exfalso;simp_all;done)|(exfalso;simp_all;omega)|grind
  have p11:=df h8;refine gx tv11 8 ?_;refine cnd rfl (fun h12=>?_) (fun h12=>?_)
  · have p13:=dt h12;refine gx tv11 4 ?_;refine call (reply_mail _) rfl rfl fun w14=>?_;refine gx tv11 6 ?_;refine rt1 rfl rfl (ple ?_);refine congrArg (PV.int .i64) ?_
    simp only[bl1] at *
    unfold Kb_
    (repeat' split)<;>first|rfl|(exfalso;omega)|(exfalso;simp_all;done)|(exfalso;simp_all;omega)|grind
  have p15:=df h12;refine gx tv11 9 ?_;refine rt1 rfl rfl (ple ?_);refine congrArg (PV.int .i64) ?_
  simp only[bl1] at *
  unfold Kb_
  (repeat' split)<;>first|rfl|(exfalso;omega)|(exfalso;simp_all;done)|(exfalso;simp_all;omega)|grind
theorem Ys_ (r:Reply):Fn Tryz.prog gb 149 [.agg (Reply.pc r)] (.tup [.agg (Frame.pc (Eh_ r)), .int .i64 (Kb_ r)]):=by
  refine fC Tryz.func149 tv11 Tryz.ntmps149 fun w N H hG=>?_;have r_w:=Reply.pwf w.1;have r_w':=r_w
  simp only[Reply.wf,Mail.wf] at r_w'
  have r_mail_head_k:=Reply.kd9 w.1;have r_mail_head_k2:r.mail.head.length<=140737488355328:=w.1.2.2.2.2.2.2.2.2.2.1.1;refine gm tv11 11 [0,1] fun B2=>?_;refine call (Ym_ _) rfl rfl fun w4=>?_;have hrl:=replyE_len r;refine gx tv11 9 ?_;refine cnd rfl (fun h5=>?_) (fun h5=>?_)
  · have h6:=Br_ h5;have p7:=df h6;refine gm tv11 10 [] fun _=>?_;refine rt2 rfl rfl ?_;refine ple ?_
    simp[Eh_,Ha_,Fu_,Frame.pc,Frame.zero, *]
  have h9:=Bf_ h5;have p10:=dt h9;refine gm tv11 21 [2] fun B12=>?_;refine cn rfl (fun p14=>?_) fun p18=>?_
  · refine gx tv11 4 ?_;refine call (Bl_ (⟨[],0⟩:Out) _) rfl rfl fun w15=>?_;have nl0:(⟨[],0⟩:Out).s.length=0:=rfl;have :=T_ (⟨[],0⟩:Out) r.name;refine gm tv11 12 [] fun _=>?_;refine cndF rfl (fd (by omega)) ?_;refine gx tv11 3 ?_;refine aN [1,3,4,5,6,7,8] 10 mixd ?_;have :=Rl_ (64+r.kind);refine gX tv11 [0,1,2,3,4,5] 4 ?_;refine vC 6 rfl (Ay_ _) rfl fun w17=>?_;refine gX tv11 [7] 2 ?_;refine vT 8 rfl (sA tv11 ?_);refine gX tv11 [9] 0 ?_;refine vD ?_;refine gx tv11 2 ?_;refine rt2 rfl rfl ?_;refine ple ?_
    simp[Eh_,Ha_,Fu_,Frame.pc,Frame.zero, *]
  refine gx tv11 7 ?_;refine cnd rfl (fun h19=>?_) (fun h19=>?_)
  · have p20:=dt h19;refine gx tv11 2 ?_;refine cndT rfl h19 ?_;refine gx tv11 4 ?_;refine call (out_Num (⟨[],0⟩:Out) _ _ (by ((try have :=hrl (by assumption));first|omega|(simp[C_,At_,Ad_,numK]<;>omega)))) rfl rfl fun w21=>?_;have nl0:(⟨[],0⟩:Out).s.length=0:=rfl;have :=P_ (⟨[],0⟩:Out) r.n 8;refine gm tv11 12 [] fun _=>?_;refine cndF rfl (fd (by omega)) ?_;refine gx tv11 3 ?_;refine aN [1,3,4,5,6,7,8] 10 mixd ?_;have :=Rl_ (64+r.kind);refine gX tv11 [0,1,2,3,4,5] 4 ?_;refine vC 6 rfl (Ay_ _) rfl fun w23=>?_;refine gX tv11 [7] 2 ?_;refine vT 8 rfl (sA tv11 ?_);refine gX tv11 [9] 0 ?_;refine vD ?_;refine gx tv11 2 ?_;refine rt2 rfl rfl ?_;refine ple ?_
    simp[Eh_,Ha_,Fu_,Frame.pc,Frame.zero, *]
  have p24:=df h19;refine gx tv11 6 ?_;refine cnd rfl (fun h25=>?_) (fun h25=>?_)
  · have p26:=dt h25;refine gx tv11 2 ?_;refine cndT rfl h25 ?_;refine gx tv11 4 ?_;refine call (out_Num (⟨[],0⟩:Out) _ _ (by ((try have :=hrl (by assumption));first|omega|(simp[C_,At_,Ad_,numK]<;>omega)))) rfl rfl fun w27=>?_;have nl0:(⟨[],0⟩:Out).s.length=0:=rfl;have :=P_ (⟨[],0⟩:Out) r.n 8;refine gm tv11 12 [] fun _=>?_;refine cndF rfl (fd (by omega)) ?_;refine gx tv11 3 ?_;refine aN [1,3,4,5,6,7,8] 10 mixd ?_;have :=Rl_ (64+r.kind);refine gX tv11 [0,1,2,3,4,5] 4 ?_;refine vC 6 rfl (Ay_ _) rfl fun w29=>?_;refine gX tv11 [7] 2 ?_;refine vT 8 rfl (sA tv11 ?_);refine gX tv11 [9] 0 ?_;refine vD ?_;refine gx tv11 2 ?_;refine rt2 rfl rfl ?_;refine ple ?_
    simp[Eh_,Ha_,Fu_,Frame.pc,Frame.zero, *]
  have p30:=df h25;refine gx tv11 5 ?_;refine cn rfl (fun p32=>?_) fun p36=>?_
  · refine gx tv11 4 ?_;refine call (out_Num (⟨[],0⟩:Out) _ _ (by ((try have :=hrl (by assumption));first|omega|(simp[C_,At_,Ad_,numK]<;>omega)))) rfl rfl fun w33=>?_;have nl0:(⟨[],0⟩:Out).s.length=0:=rfl;have :=P_ (⟨[],0⟩:Out) r.n 8;refine gm tv11 12 [] fun _=>?_;refine cndF rfl (fd (by omega)) ?_;refine gx tv11 3 ?_;refine aN [1,3,4,5,6,7,8] 10 mixd ?_;have :=Rl_ (64+r.kind);refine gX tv11 [0,1,2,3,4,5] 4 ?_;refine vC 6 rfl (Ay_ _) rfl fun w35=>?_;refine gX tv11 [7] 2 ?_;refine vT 8 rfl (sA tv11 ?_);refine gX tv11 [9] 0 ?_;refine vD ?_;refine gx tv11 2 ?_;refine rt2 rfl rfl ?_;refine ple ?_
    simp[Eh_,Ha_,Fu_,Frame.pc,Frame.zero, *]
  refine gx tv11 7 ?_;refine cnd rfl (fun h37=>?_) (fun h37=>?_)
  · have p38:=dt h37;refine gx tv11 2 ?_;refine cndT rfl h37 ?_;refine aN [3,4,5,6,7,8] 8 mixd ?_;refine gX tv11 [0,1,2] 5 ?_;refine vC 3 rfl (out_Num (⟨[],0⟩:Out) _ _ (by ((try have :=hrl (by assumption));first|omega|(simp[C_,At_,Ad_,numK]<;>omega)))) rfl fun w39=>?_;have nl0:(⟨[],0⟩:Out).s.length=0:=rfl;have :=P_ (⟨[],0⟩:Out) r.n 8;refine gX tv11 [4,5] 2 ?_;refine vC 6 rfl (out_Num _ _ _ (by ((try have :=hrl (by assumption));first|omega|(simp[C_,At_,Ad_,numK]<;>omega)))) rfl fun w40=>?_;have :=P_ (C_ (⟨[],0⟩:Out) r.n 8) r.m 8;refine vT 7 rfl (sA tv11 ?_);refine vD ?_;refine gx tv11 10 ?_;refine cndT rfl h37 ?_;refine gx tv11 12 ?_;refine cnd rfl (fun h41=>?_) (fun h41=>?_)
    · refine gx tv11 9 ?_;refine call (G2_ _) rfl rfl fun w42=>?_;have :=D0_ r.mail.head;refine gx tv11 7 ?_;refine aN [3,4,5,6,7,8] 18 mixd ?_;refine gX tv11 [0,1] 16 ?_;refine vC 2 rfl (out_Num _ _ _ (by ((try have :=hrl (by assumption));first|omega|(simp[C_,At_,Ad_,numK]<;>omega)))) rfl fun w43=>?_;have :=P_ (C_ (C_ (⟨[],0⟩:Out) r.n 8) r.m 8) 1 1;refine gX tv11 [3,4,5] 12 ?_;refine vC 6 rfl (Bl_ _ _) rfl fun w44=>?_;have :=T_ (C_ (C_ (C_ (⟨[],0⟩:Out) r.n 8) r.m 8) 1 1) r.mail.shop;refine gX tv11 [7,8,9] 8 ?_;refine vC 10 rfl (Bl_ _ _) rfl fun w45=>?_;have :=T_ (D_ (C_ (C_ (C_ (⟨[],0⟩:Out) r.n 8) r.m 8) 1 1) r.mail.shop) r.mail.key;refine gX tv11 [11] 6 ?_;refine vC 12 rfl (Jm_ _ _) rfl fun w46=>?_;have :=E0_ (D_ (D_ (C_ (C_ (C_ (⟨[],0⟩:Out) r.n 8) r.m 8) 1 1) r.mail.shop) r.mail.key) (Av_ r.mail.head);refine gX tv11 [13,14,15] 2 ?_;refine vC 16 rfl (Bl_ _ _) rfl fun w47=>?_;have :=T_ (At_ (D_ (D_ (C_ (C_ (C_ (⟨[],0⟩:Out) r.n 8) r.m 8) 1 1) r.mail.shop) r.mail.key) (Av_ r.mail.head)) r.mail.body;refine vT 17 rfl (sA tv11 ?_);refine vD ?_;refine gx tv11 2 ?_;refine aN [1,3,4,5,6,7,8] 10 mixd ?_;have :=Rl_ (64+r.kind);refine gX tv11 [0,1,2,3,4,5] 4 ?_;refine vC 6 rfl (Ay_ _) rfl fun w48=>?_;refine gX tv11 [7] 2 ?_;refine vT 8 rfl (sA tv11 ?_);refine gX tv11 [9] 0 ?_;refine vD ?_;refine gx tv11 2 ?_;refine rt2 rfl rfl ?_;refine ple ?_
      simp[Eh_,Ha_,Fu_,Frame.pc,Frame.zero, *]
    refine gx tv11 7 ?_;refine call (G2_ _) rfl rfl fun w49=>?_;have :=D0_ r.mail.head;refine gx tv11 7 ?_;refine aN [3,4,5,6,7,8] 18 mixd ?_;refine gX tv11 [0,1] 16 ?_;refine vC 2 rfl (out_Num _ _ _ (by ((try have :=hrl (by assumption));first|omega|(simp[C_,At_,Ad_,numK]<;>omega)))) rfl fun w50=>?_;have :=P_ (C_ (C_ (⟨[],0⟩:Out) r.n 8) r.m 8) 0 1;refine gX tv11 [3,4,5] 12 ?_;refine vC 6 rfl (Bl_ _ _) rfl fun w51=>?_;have :=T_ (C_ (C_ (C_ (⟨[],0⟩:Out) r.n 8) r.m 8) 0 1) r.mail.shop;refine gX tv11 [7,8,9] 8 ?_;refine vC 10 rfl (Bl_ _ _) rfl fun w52=>?_;have :=T_ (D_ (C_ (C_ (C_ (⟨[],0⟩:Out) r.n 8) r.m 8) 0 1) r.mail.shop) r.mail.key;refine gX tv11 [11] 6 ?_;refine vC 12 rfl (Jm_ _ _) rfl fun w53=>?_;have :=E0_ (D_ (D_ (C_ (C_ (C_ (⟨[],0⟩:Out) r.n 8) r.m 8) 0 1) r.mail.shop) r.mail.key) (Av_ r.mail.head);refine gX tv11 [13,14,15] 2 ?_;refine vC 16 rfl (Bl_ _ _) rfl fun w54=>?_;have :=T_ (At_ (D_ (D_ (C_ (C_ (C_ (⟨[],0⟩:Out) r.n 8) r.m 8) 0 1) r.mail.shop) r.mail.key) (Av_ r.mail.head)) r.mail.body;refine vT 17 rfl (sA tv11 ?_);refine vD ?_;refine gx tv11 2 ?_;refine aN [1,3,4,5,6,7,8] 10 mixd ?_;have :=Rl_ (64+r.kind);refine gX tv11 [0,1,2,3,4,5] 4 ?_;refine vC 6 rfl (Ay_ _) rfl fun w55=>?_;refine gX tv11 [7] 2 ?_;refine vT 8 rfl (sA tv11 ?_);refine gX tv11 [9] 0 ?_;refine vD ?_;refine gx tv11 2 ?_;refine rt2 rfl rfl ?_;refine ple ?_
    simp[Eh_,Ha_,Fu_,Frame.pc,Frame.zero, *]
  have p56:=df h37;refine gx tv11 5 ?_;refine cn rfl (fun p58=>?_) fun p62=>?_
  · refine aN [3,4,5,6,7,8] 8 mixd ?_;refine gX tv11 [0,1,2] 5 ?_;refine vC 3 rfl (out_Num (⟨[],0⟩:Out) _ _ (by ((try have :=hrl (by assumption));first|omega|(simp[C_,At_,Ad_,numK]<;>omega)))) rfl fun w59=>?_;have nl0:(⟨[],0⟩:Out).s.length=0:=rfl;have :=P_ (⟨[],0⟩:Out) r.n 8;refine gX tv11 [4,5] 2 ?_;refine vC 6 rfl (out_Num _ _ _ (by ((try have :=hrl (by assumption));first|omega|(simp[C_,At_,Ad_,numK]<;>omega)))) rfl fun w60=>?_;have :=P_ (C_ (⟨[],0⟩:Out) r.n 8) r.m 8;refine vT 7 rfl (sA tv11 ?_);refine vD ?_;refine gx tv11 10 ?_;refine cndF rfl h37 ?_;refine gx tv11 3 ?_;refine aN [1,3,4,5,6,7,8] 10 mixd ?_;have :=Rl_ (64+r.kind);refine gX tv11 [0,1,2,3,4,5] 4 ?_;refine vC 6 rfl (Ay_ _) rfl fun w61=>?_;refine gX tv11 [7] 2 ?_;refine vT 8 rfl (sA tv11 ?_);refine gX tv11 [9] 0 ?_;refine vD ?_;refine gx tv11 2 ?_;refine rt2 rfl rfl ?_;refine ple ?_
    simp[Eh_,Ha_,Fu_,Frame.pc,Frame.zero, *]
  refine gx tv11 11 ?_;refine cndF rfl h37 ?_;refine gx tv11 3 ?_;refine aN [1,3,4,5,6,7,8] 10 mixd ?_;have :=Rl_ (64+r.kind);refine gX tv11 [0,1,2,3,4,5] 4 ?_;refine vC 6 rfl (Ay_ (⟨[],0⟩:Out)) rfl fun w63=>?_;refine gX tv11 [7] 2 ?_;refine vT 8 rfl (sA tv11 ?_);refine gX tv11 [9] 0 ?_;refine vD ?_;refine gx tv11 2 ?_;refine rt2 rfl rfl ?_;refine ple ?_
  simp[Eh_,Ha_,Fu_,Frame.pc,Frame.zero, *]
theorem cb74:Ah_ Tryz.prog 74:=Z_ Tryz.func74 (by kernel_rfl) (by kernel_rfl)
abbrev ty70:TI:=⟨.agg [(0,1),(1,1)],2,24,[.str [], .int .i64 0]⟩
abbrev ty154:TI:=⟨.slc 158,1,24,[.sl Frame.pc []]⟩
def tbv12:Tb:=[(9,ty9),(40,ty40),(70,ty70),(154,ty154),(158,Tl_)]
theorem tv12:tbB Tryz.prog tbv12=true:=by kernel_rfl
theorem Q0_ (f:Feed) (chunk:Bs) (hfl:f.rest.length+chunk.length<=4000000000:=by first|omega|(simp;done)|(simp;omega)|(simp only[List.length_nil,List.length_take,List.length_drop];omega)|decide +kernel):Fo Tryz.prog gb 74 [.agg (Feed.pc f), .str chunk] (fun u=> .tup [.agg (Feed.pc ((Ac_ f chunk).1)), .val u]) 3 158 Frame.pc ((Ac_ f chunk).2):=by
  refine Ro_ tv12 Tryz.func74 rfl Tryz.ntmps74 rfl cb74 (fun _=>rfl) rfl fun w N H hG=>?_;refine gm tv12 16 [0,1] fun B2=>?_;refine cnd rfl (fun h4=>?_) (fun h4=>?_)
  · have h5:=Br_ h4;have p6:=df h5;refine gm tv12 7 [] fun _=>?_;refine sw_own (t:=5) (k:=3) (e:=158) 2 Frame.pc rfl rfl ?_;refine sw_val (t:=5) (i:=2) rfl rfl ?_;refine gx tv12 3 ?_;refine ro2 (j:=2) rfl rfl rfl ?_ ?_
    · simp[Ac_, *]
    exact ple (by simp[Ac_,Feed.pc, *])
  have h8:=Bf_ h4;have p9:=dt h8;refine gmp tv12 22 [] (fun _=>rfl) (fun _=>rfl) (fun _=>⟨(by first|omega|(simp<;>omega)),trivial⟩) fun _=>?_;refine sw_own (t:=6) (k:=3) (e:=158) 2 Frame.pc rfl rfl ?_;refine loop (ι:=Nat×(List Frame)×Value×Feed) [0,1,2,4,5,10,11,12,14,15,16,17,18] [1] (fun ⟨k,out,u_out,g⟩=>[(6, .osl 2)]) (fun ⟨k,out,u_out,g⟩=>[(2, .arr u_out 3 158 Frame.pc out),(0, .box (B2 0) 70 [.str g.rest, .int .i64 g.err])]) (fun ⟨k,out,u_out,g⟩=>Ac_ f chunk=Gt_ k g.rest out/\g.err=f.err/\g.rest.length<k/\(g.rest.length:Int)+out.length<=f.rest.length+chunk.length) (fun ⟨k,out,u_out,g⟩=>k) ⟨((f.rest++chunk).length+1),[],(.slice none 0 0),(⟨(f.rest++chunk),f.err⟩:Feed)⟩ ⟨rfl,trivial⟩ ⟨rfl,rfl,trivial⟩ ?_ ?_
  · exact⟨by simp[Ac_, *],rfl,by simp,by simp⟩
  rintro⟨k,out,u_out,g⟩ hp11;obtain⟨hk1,hk4,hk2,hk3⟩:=hp11;refine gx tv12 5 ?_;refine call (Zf_ _) rfl rfl fun w12=>?_;have hpo:=Mv_ g.rest;refine gm tv12 22 [3] fun B14=>?_;refine cn rfl (fun p16=>?_) fun p21=>?_
  · refine gx tv12 4 ?_;refine ef (bsl 4 Frame.pc [((Di_ g.rest).1)] tv12 rfl rfl rfl rfl rfl (fun _=>rfl) rfl (by decide) (by decide) rfl fun u17=>?_);refine ef (app tv12 [((Di_ g.rest).1)] rfl rfl rfl rfl rfl rfl rfl rfl rfl (src_o rfl rfl) (by first|omega|(simp;omega)) rfl fun u18=>?_);refine gx tv12 7 ?_;refine q1 (sslo tv12 ((Di_ g.rest).2.1).toNat rfl rfl rfl rfl (by omega) (by first|omega|(have :=hpo (by assumption);omega))) rfl fun w19=>?_;refine gm tv12 5 [] fun _=>?_;refine next ⟨(k-1),(out++[((Di_ g.rest).1)]),(u18),(⟨(g.rest.drop ((Di_ g.rest).2.1).toNat),g.err⟩:Feed)⟩ rfl rfl ⟨rfl,trivial⟩ ⟨rfl,rfl,trivial⟩ ?_ ?_
    · (try simp only[]);omega
    try simp only[]
    have hp0:(Di_ g.rest).2.2=0:=by assumption
    have hpo:=hpo hp0;refine⟨?_,hk4,by simp;omega,by simp;omega⟩;obtain⟨j,rfl⟩:∃ j,k=j+1:=⟨k-1,by omega⟩
    rw[hk1]
    simp only[Gt_,Nat.add_sub_cancel]
    rw[if_pos hp0]
  refine gx tv12 6 ?_;refine cn rfl (fun p23=>?_) fun p25=>?_
  · refine gm tv12 14 [] fun _=>?_;refine sw_val (t:=5) (i:=2) rfl rfl ?_;refine gx tv12 2 ?_;refine ro2 (j:=2) rfl rfl rfl ?_ ?_
    · have e:Ac_ f chunk=(⟨g.rest,g.err⟩,out):=by
        obtain⟨j,rfl⟩:∃ j,k=j+1:=⟨k-1,by omega⟩
        rw[hk1]
        simp[Gt_, *]
      rw[e]
    have e:Ac_ f chunk=(⟨g.rest,g.err⟩,out):=by
      obtain⟨j,rfl⟩:∃ j,k=j+1:=⟨k-1,by omega⟩
      rw[hk1]
      simp[Gt_, *]
    exact ple (by rw[e];rfl)
  refine gm tv12 21 [] fun _=>?_;refine sw_val (t:=5) (i:=2) rfl rfl ?_;refine gx tv12 2 ?_;refine ro2 (j:=2) rfl rfl rfl ?_ ?_
  · have e:Ac_ f chunk=(⟨[],(Di_ g.rest).2.2⟩,out):=by
      obtain⟨j,rfl⟩:∃ j,k=j+1:=⟨k-1,by omega⟩
      rw[hk1]
      simp[Gt_, *]
    rw[e]
  have e:Ac_ f chunk=(⟨[],(Di_ g.rest).2.2⟩,out):=by
    obtain⟨j,rfl⟩:∃ j,k=j+1:=⟨k-1,by omega⟩
    rw[hk1]
    simp[Gt_, *]
  exact ple (by rw[e];rfl)
theorem feed_Rest (f:Feed):Fn Tryz.prog gb 146 [.agg (Feed.pc f)] (.str f.rest):=by
  refine fC Tryz.func146 tv12 Tryz.ntmps146 fun w N H hG=>?_;refine gm tv12 14 [0] fun B2=>?_;refine rt1 rfl rfl (ple ?_)
  rfl
theorem Z8_ (f:Feed):Fn Tryz.prog gb 76 [.agg (Feed.pc f)] (.int .i64 f.err):=by
  refine fC Tryz.func76 tv12 Tryz.ntmps76 fun w N H hG=>?_;refine gm tv12 14 [0] fun B2=>?_;refine rt1 rfl rfl (ple ?_)
  rfl
theorem ag27:Ag Tryz.prog 27 false:=fun w=>by kernel_rfl
theorem eqg44:Tryz.prog.eqGuardType Tryz.prog.depth 44=false:=by kernel_rfl
theorem eqg46:Tryz.prog.eqGuardType Tryz.prog.depth 46=false:=by kernel_rfl
theorem veq44 (p q:ShopR):∀ (H:Hp) (vs us:List Value),Sims H (ShopR.pc p) vs->Sims H (ShopR.pc q) us->EqV Tryz.prog 10000 44 (.agg vs.toArray) (.agg us.toArray) (decide (p=q)):=by
  intro H vs us hv hu;obtain⟨_,_,rfl,v0,v_0⟩:=hv.inv_cons;obtain⟨_,_,rfl,v1,v_1⟩:=v_0.inv_cons;obtain⟨_,_,rfl,v2,v_2⟩:=v_1.inv_cons
  cases v_2.inv_nil
  cases v0.inv_str.1;cases v1.inv_int.1;cases v2.inv_str.1
  obtain⟨_,_,rfl,u0,u_0⟩:=hu.inv_cons;obtain⟨_,_,rfl,u1,u_1⟩:=u_0.inv_cons;obtain⟨_,_,rfl,u2,u_2⟩:=u_1.inv_cons
  cases u_2.inv_nil
  cases u0.inv_str.1;cases u1.inv_int.1;cases u2.inv_str.1
  exact EqV.to (L9_ Tryz.underlying44 (by kernel_rfl) (If_ (by decide) ag9 rfl rfl (Hm_ Tryz.underlying9) (If_ (by decide) ag5 rfl rfl (H5_ Tryz.underlying5) (If_ (by decide) ag9 rfl rfl (Hm_ Tryz.underlying9) Ls_)))) (by obtain⟨a0,a1,a2⟩:=p;obtain⟨b0,b1,b2⟩:=q;rw[Bool.eq_iff_iff];simp)
theorem veq46 (p q:Aa_):∀ (H:Hp) (vs us:List Value),Sims H (Aa_.pc p) vs->Sims H (Aa_.pc q) us->EqV Tryz.prog 10000 46 (.agg vs.toArray) (.agg us.toArray) (decide (p=q)):=by
  intro H vs us hv hu;obtain⟨_,_,rfl,v0,v_0⟩:=hv.inv_cons;obtain⟨_,_,rfl,v1,v_1⟩:=v_0.inv_cons;obtain⟨_,_,rfl,v2,v_2⟩:=v_1.inv_cons;obtain⟨_,_,rfl,v3,v_3⟩:=v_2.inv_cons
  cases v_3.inv_nil
  cases v0.inv_str.1;cases v1.inv_int.1;cases v2.inv_int.1;cases v3.inv_str.1
  obtain⟨_,_,rfl,u0,u_0⟩:=hu.inv_cons;obtain⟨_,_,rfl,u1,u_1⟩:=u_0.inv_cons;obtain⟨_,_,rfl,u2,u_2⟩:=u_1.inv_cons;obtain⟨_,_,rfl,u3,u_3⟩:=u_2.inv_cons
  cases u_3.inv_nil
  cases u0.inv_str.1;cases u1.inv_int.1;cases u2.inv_int.1;cases u3.inv_str.1
  exact EqV.to (L9_ Tryz.underlying46 (by kernel_rfl) (If_ (by decide) ag9 rfl rfl (Hm_ Tryz.underlying9) (If_ (by decide) ag27 rfl rfl (H5_ Tryz.underlying27) (If_ (by decide) ag27 rfl rfl (H5_ Tryz.underlying27) (If_ (by decide) ag9 rfl rfl (Hm_ Tryz.underlying9) Ls_))))) (by obtain⟨a0,a1,a2,a3⟩:=p;obtain⟨b0,b1,b2,b3⟩:=q;rw[Bool.eq_iff_iff];simp)
abbrev ty44:TI:=⟨.agg [(0,1),(1,1),(2,1)],3,40,[.str [], .int .u8 0, .str []]⟩
abbrev ty46:TI:=⟨.agg [(0,1),(1,1),(2,1),(3,1)],4,48,[.str [], .int .u64 0, .int .u64 0, .str []]⟩
abbrev ty53:TI:=⟨.agg [(0,1),(1,1),(2,3),(5,4),(9,6),(15,1),(16,1),(17,1),(18,1),(19,1),(20,1),(21,7),(28,1)],29,344,[.int .u8 0, .int .u64 0, .str [], .int .u8 0, .str [], .str [], .int .u64 0, .int .u64 0, .str [], .str [], .str [], .bool false, .str [], .sl Pair.pc [], .bool false, .str [], .int .u64 0, .int .u8 0, .int .u8 0, .int .u8 0, .int .u64 0, .int .u64 0, .str [], .str [], .sl Pair.pc [], .str [], .int .u64 0, .int .u8 0, .str []]⟩
def tbv14:Tb:=[(5,ty5),(9,ty9),(27,ty27),(44,ty44),(46,ty46),(47,ty47),(49,ty49),(51,ty51),(53,ty53),(285,We_)]
theorem tv14:tbB Tryz.prog tbv14=true:=by kernel_rfl
theorem Oe_ (m:Mail):Fn Tryz.prog gb 220 [.agg (Mail.pc m)] (.int .i64 (Gk_ m)):=by
  refine fC Tryz.func220 tv14 Tryz.ntmps220 fun w N H hG=>?_;refine gm tv14 11 [0] fun B2=>?_;refine call (Ck_ _) rfl rfl fun w3=>?_;refine gx tv14 9 ?_;refine cnd rfl (fun h4=>?_) (fun h4=>?_)
  · have h5:=Br_ h4;have p6:=df h5;refine gx tv14 8 ?_;refine rt1 rfl rfl (ple ?_);refine congrArg (PV.int .i64) ?_
    simp only[bl1] at *
    unfold Gk_
    (repeat' split)<;>first|rfl|(exfalso;omega)|(exfalso;simp_all;done)|(exfalso;simp_all;omega)|grind
  have h7:=Bf_ h4;have p8:=dt h7;refine gx tv14 7 ?_;refine call (Mi_ _) rfl rfl fun w9=>?_;refine gx tv14 9 ?_;refine cnd rfl (fun h10=>?_) (fun h10=>?_)
  · have h11:=Br_ h10;have p12:=df h11;refine gx tv14 8 ?_;refine rt1 rfl rfl (ple ?_);refine congrArg (PV.int .i64) ?_
    simp only[bl1] at *
    unfold Gk_
    (repeat' split)<;>first|rfl|(exfalso;omega)|(exfalso;simp_all;done)|(exfalso;simp_all;omega)|grind
  have h13:=Bf_ h10;have p14:=dt h13;refine gx tv14 7 ?_;refine call (Gj_ _) rfl rfl fun w15=>?_;refine gx tv14 11 ?_;refine cnd rfl (fun h16=>?_) (fun h16=>?_)
  · have h17:=Br_ h16;have p18:=df h17;refine gx tv14 9 ?_;refine rt1 rfl rfl (ple ?_);refine congrArg (PV.int .i64) ?_
    simp only[bl1] at *
    unfold Gk_
    (repeat' split)<;>first|rfl|(exfalso;omega)|(exfalso;simp_all;done)|(exfalso;simp_all;omega)|grind
  have h19:=Bf_ h16;have p20:=dt h19;refine gx tv14 9 ?_;refine cnd rfl (fun h21=>?_) (fun h21=>?_)
  · have p22:=dt h21;refine gx tv14 8 ?_;refine rt1 rfl rfl (ple ?_);refine congrArg (PV.int .i64) ?_
    simp only[bl1] at *
    unfold Gk_
    (repeat' split)<;>first|rfl|(exfalso;omega)|(exfalso;simp_all;done)|(exfalso;simp_all;omega)|grind
  have p23:=df h21;refine gx tv14 8 ?_;refine cnd rfl (fun h24=>?_) (fun h24=>?_)
  · have p25:=dt h24;refine gx tv14 8 ?_;refine rt1 rfl rfl (ple ?_);refine congrArg (PV.int .i64) ?_
    simp only[bl1] at *
    unfold Gk_
    (repeat' split)<;>first|rfl|(exfalso;omega)|(exfalso;simp_all;done)|(exfalso;simp_all;omega)|grind
  have p26:=df h24;refine gx tv14 9 ?_;refine rt1 rfl rfl (ple ?_);refine congrArg (PV.int .i64) ?_
  simp only[bl1] at *
  unfold Gk_
  (repeat' split)<;>first|rfl|(exfalso;omega)|(exfalso;simp_all;done)|(exfalso;simp_all;omega)|grind
theorem Ry_ (m:Mail):Fn Tryz.prog gb 238 [.agg (Mail.pc m)] (.tup [.str (Ed_ m), .int .i64 (Gk_ m)]):=by
  refine fC Tryz.func238 tv14 Tryz.ntmps238 fun w N H hG=>?_;have m_w:=Mail.pwf w.1;have m_w':=m_w
  simp only[Mail.wf] at m_w'
  have m_head_k:=Mail.kd3 w.1;have m_head_k2:m.head.length<=140737488355328:=w.1.2.2.2.1.1;refine gm tv14 11 [0] fun B2=>?_;refine call (Oe_ _) rfl rfl fun w3=>?_;have :=Oc_ m;have hmo3:=fun h=>J2_ (m:=m) h;refine gx tv14 9 ?_;refine cnd rfl (fun h4=>?_) (fun h4=>?_)
  · have h5:=Br_ h4;have p6:=df h5;refine gx tv14 9 ?_;refine rt2 rfl rfl ?_;refine ple ?_
    simp[Ed_,Qu_, *]
  have h7:=Bf_ h4;have p8:=dt h7;refine gx tv14 6 ?_;refine call (G2_ _) rfl rfl fun w9=>?_;have :=D0_ m.head;refine gx tv14 8 ?_;refine aN [1,2,3,4,5,6] 17 mixd ?_;refine gX tv14 [0,1,2] 14 ?_;refine vC 3 rfl (out_Num (⟨[],0⟩:Out) _ _ (by ((try have :=hrl (by assumption));first|omega|(simp[C_,At_,Ad_,numK]<;>omega)))) rfl fun w10=>?_;have nl0:(⟨[],0⟩:Out).s.length=0:=rfl;have :=P_ (⟨[],0⟩:Out) m.id 8;refine gX tv14 [4,5] 11 ?_;refine vC 6 rfl (Bl_ _ _) rfl fun w11=>?_;have :=T_ (C_ (⟨[],0⟩:Out) m.id 8) m.shop;refine gX tv14 [7,8] 8 ?_;refine vC 9 rfl (Bl_ _ _) rfl fun w12=>?_;have :=T_ (D_ (C_ (⟨[],0⟩:Out) m.id 8) m.shop) m.key;refine gX tv14 [10] 6 ?_;refine vC 11 rfl (Jm_ _ _) rfl fun w13=>?_;have :=E0_ (D_ (D_ (C_ (⟨[],0⟩:Out) m.id 8) m.shop) m.key) (Av_ m.head);refine gX tv14 [12,13] 3 ?_;refine vC 14 rfl (Bl_ _ _) rfl fun w14=>?_;have :=T_ (At_ (D_ (D_ (C_ (⟨[],0⟩:Out) m.id 8) m.shop) m.key) (Av_ m.head)) m.body;refine vE 15 rfl (aL tv14 1 fun b15=>?_);refine vT 16 rfl (sA tv14 ?_);refine vD ?_;refine gx tv14 2 ?_;refine aN [2,3,4,5,6,7] 11 mixd ?_;refine gX tv14 [0,1,2] 8 ?_;refine vC 3 rfl (out_Num _ _ _ (by ((try have :=hrl (by assumption));first|omega|(simp[C_,At_,Ad_,numK]<;>omega)))) rfl fun w16=>?_;have :=P_ (D_ (At_ (D_ (D_ (C_ (⟨[],0⟩:Out) m.id 8) m.shop) m.key) (Av_ m.head)) m.body) m.due 8;refine gX tv14 [4,5,6] 4 ?_;refine vC 7 rfl (out_Num _ _ _ (by ((try have :=hrl (by assumption));first|omega|(simp[C_,At_,Ad_,numK]<;>omega)))) rfl fun w17=>?_;have :=P_ (C_ (D_ (At_ (D_ (D_ (C_ (⟨[],0⟩:Out) m.id 8) m.shop) m.key) (Av_ m.head)) m.body) m.due 8) m.hops 1;refine vC 8 rfl (Ay_ _) rfl fun w18=>?_;refine gX tv14 [9,10] 0 ?_;refine vD ?_;refine gx tv14 2 ?_;refine rt2 rfl rfl ?_;refine ple ?_
  simp[Ed_,Qu_, *]
theorem K9_ (tick:Int) (life:Int):Fn Tryz.prog gb 111 [.int .u64 tick, .int .u64 life] (.int .u64 (Gc_ tick life)):=by
  refine fC Tryz.func111 tv14 Tryz.ntmps111 fun w N H hG=>?_;have tick_r:0<=tick/\tick<=18446744073709551615:=w.1;have life_r:0<=life/\life<=18446744073709551615:=w.2.1;refine gx tv14 13 ?_;refine q1g [9] rfl (fun hc=>qsub rfl rfl (Z0_ (by omega))) ⟨(fun hc=>hc),trivial⟩ rfl rfl rfl fun _=>?_;refine gy tv14 4 ?_;refine cnd rfl (fun h1=>?_) (fun h1=>?_)
  · refine gx tv14 7 ?_;refine rt1 rfl rfl (ple ?_);refine congrArg (PV.int .u64) ?_
    simp only[bl1] at *
    unfold Gc_
    (repeat' split)<;>first|rfl|(exfalso;omega)|(exfalso;simp_all;done)|(exfalso;simp_all;omega)|grind
  have h2:=orl h1;have p3:=df h2;have h4:=orr h1;have p5:=df h4;refine gx tv14 6 ?_;refine q1 (qadd rfl rfl (Z0_ (by omega))) rfl fun w6=>?_;refine gx tv14 4 ?_;refine rt1 rfl rfl (ple ?_);refine congrArg (PV.int .u64) ?_
  simp only[bl1] at *
  unfold Gc_
  (repeat' split)<;>first|rfl|(exfalso;omega)|(exfalso;simp_all;done)|(exfalso;simp_all;omega)|grind
theorem Z3_ (tick:Int) (life:Int):Fn Tryz.prog gb 209 [.int .u64 tick, .int .u64 life] (.int .u64 (Gc_ tick life)):=by
  refine fC Tryz.func209 tv14 Tryz.ntmps209 fun w N H hG=>?_;have tick_r:0<=tick/\tick<=18446744073709551615:=w.1;have life_r:0<=life/\life<=18446744073709551615:=w.2.1;have :=Sf_ (tick+life);refine gy tv14 25 ?_;refine cnd rfl (fun h1=>?_) (fun h1=>?_)
  · refine gx tv14 7 ?_;refine rt1 rfl rfl (ple ?_);refine congrArg (PV.int .u64) ?_;have hw:=Xx_ tick_r.1 tick_r.2 life_r.1 life_r.2
    unfold Gc_
    (try simp only[Bool.or_eq_true,Bool.or_eq_false_iff,decide_eq_true_eq,decide_eq_false_iff_not] at *)
    split at hw<;>first|(rw[if_pos (by omega)];done)|(rw[if_neg (by omega)];omega)
  have h2:=orl h1;have p3:=df h2;have h4:=orr h1;have p5:=df h4;refine gx tv14 9 ?_;refine rt1 rfl rfl (ple ?_);refine congrArg (PV.int .u64) ?_;have hw:=Xx_ tick_r.1 tick_r.2 life_r.1 life_r.2
  unfold Gc_
  (try simp only[Bool.or_eq_true,Bool.or_eq_false_iff,decide_eq_true_eq,decide_eq_false_iff_not] at *)
  split at hw<;>first|(rw[if_pos (by omega)];done)|(rw[if_neg (by omega)];omega)
theorem Tc_ (s:Bs):Fn Tryz.prog gb 219 [.str s] (.int .i64 (Ih_ s)):=by
  refine fC Tryz.func219 tv14 Tryz.ntmps219 fun w N H hG=>?_;refine gx tv14 12 ?_;refine cn rfl (fun p2=>?_) fun p3=>?_
  · refine gx tv14 7 ?_;refine rt1 rfl rfl (ple ?_)
    simp[Ih_, *]
  refine gx tv14 5 ?_;refine call (Ck_ _) rfl rfl fun w4=>?_;refine gx tv14 4 ?_;refine rt1 rfl rfl (ple ?_)
  simp[Ih_, *]
theorem Jf_ (b:Bool) (e:Int):Fn Tryz.prog gb 218 [.bool b, .int .i64 e] (.int .i64 (Bq_ b e)):=by
  refine fC Tryz.func218 tv14 Tryz.ntmps218 fun w N H hG=>?_;refine gx tv14 11 ?_;refine cnd rfl (fun h1=>?_) (fun h1=>?_)
  · refine gx tv14 8 ?_;refine rt1 rfl rfl (ple ?_)
    simp[Bq_, *]
  refine gx tv14 8 ?_;refine rt1 rfl rfl (ple ?_)
  simp[Bq_, *]
theorem mail_Same (a:Mail) (b:Mail):Fn Tryz.prog gb 243 [.agg (Mail.pc a), .agg (Mail.pc b)] (.bool (decide (a=b))):=by
  refine fC Tryz.func243 tv14 Tryz.ntmps243 fun w N H hG=>?_;refine gmy tv14 33 [0,1] fun B2=>?_;refine callg rfl (fun hc=>(Vi_ _ _)) rfl ⟨(fun hc=>hc),(fun hc=>hc),trivial⟩ rfl rfl fun _=>?_;refine gy tv14 26 ?_;refine rt1 rfl rfl (ple ?_);exact congrArg PV.bool (by rw[Bool.eq_iff_iff];first|(simp[Mail.eq_iff,and_assoc];done)|(simp[Mail.eq_iff];grind))
theorem deed_Same (a:DeedR) (b:DeedR):Fn Tryz.prog gb 215 [.agg (DeedR.pc a), .agg (DeedR.pc b)] (.bool (decide (a=b))):=by
  refine fC Tryz.func215 tv14 Tryz.ntmps215 fun w N H hG=>?_;refine gmy tv14 26 [0,1] fun B2=>?_;refine q1g [19,21] rfl (fun hc=>saeq rfl rfl eqg44 (veq44 a.shop b.shop)) ⟨(fun hc=>hc),(fun hc=>hc),trivial⟩ rfl rfl rfl fun _=>?_;refine gy tv14 6 ?_;refine q1g [26,28] rfl (fun hc=>saeq rfl rfl eqg46 (veq46 a.queue b.queue)) ⟨(fun hc=>hc),(fun hc=>hc),trivial⟩ rfl rfl rfl fun _=>?_;refine gy tv14 6 ?_;refine callg rfl (fun hc=>(T0_ _ _)) rfl ⟨(fun hc=>hc),(fun hc=>hc),trivial⟩ rfl rfl fun _=>?_;refine gy tv14 48 ?_;refine callg rfl (fun hc=>(mail_Same _ _)) rfl ⟨(fun hc=>hc),(fun hc=>hc),trivial⟩ rfl rfl fun _=>?_;refine gy tv14 12 ?_;refine rt1 rfl rfl (ple ?_);exact congrArg PV.bool (by rw[Bool.eq_iff_iff];first|(simp[DeedR.eq_iff,and_assoc];done)|(simp[DeedR.eq_iff];grind))
abbrev ty334:TI:=⟨.slc 40,1,24,[.sl i64c []]⟩
def tbv15:Tb:=[(5,ty5),(9,ty9),(27,ty27),(40,ty40),(44,ty44),(46,ty46),(47,ty47),(49,ty49),(51,ty51),(53,ty53),(334,ty334)]
theorem tv15:tbB Tryz.prog tbv15=true:=by kernel_rfl
theorem deed_told (d:DeedR):Fn Tryz.prog gb 216 [.agg (DeedR.pc d)] (.agg (DeedR.pc (E8_ d))):=by
  refine fC Tryz.func216 tv15 Tryz.ntmps216 fun w N H hG=>?_;refine gm tv15 31 [0,1,2] fun B2=>?_;refine cn rfl (fun p6=>?_) fun p8=>?_
  · refine gm tv15 15 [] fun _=>?_;refine rt1 rfl rfl (ple ?_);have e:E8_ d=(⟨d.kind,d.tick,d.shop,(⟨[],0,0,[]⟩:Aa_),(⟨[],[],false,[],[],false⟩:BindR),[],0,0,0,0,0,(⟨0,[],[],[],[],0,0⟩:Mail),[]⟩:DeedR):=by
      unfold E8_
      repeat (first|rw[if_pos (by omega)]|rw[if_neg (by omega)])
      rfl
    rw[e];rfl
  refine gx tv15 6 ?_;refine cn rfl (fun p10=>?_) fun p12=>?_
  · refine gm tv15 15 [] fun _=>?_;refine rt1 rfl rfl (ple ?_);have e:E8_ d=(⟨d.kind,d.tick,(⟨[],0,[]⟩:ShopR),d.queue,(⟨[],[],false,[],[],false⟩:BindR),[],0,0,0,0,0,(⟨0,[],[],[],[],0,0⟩:Mail),[]⟩:DeedR):=by
      unfold E8_
      repeat (first|rw[if_pos (by omega)]|rw[if_neg (by omega)])
      rfl
    rw[e];rfl
  refine gx tv15 7 ?_;refine cnd rfl (fun h13=>?_) (fun h13=>?_)
  · have p14:=dt h13;refine gx tv15 2 ?_;refine cndT rfl h13 ?_;refine gm tv15 15 [] fun _=>?_;refine rt1 rfl rfl (ple ?_);have e:E8_ d=(⟨d.kind,d.tick,(⟨[],0,[]⟩:ShopR),(⟨[],0,0,[]⟩:Aa_),d.bind,[],0,0,0,0,0,(⟨0,[],[],[],[],0,0⟩:Mail),[]⟩:DeedR):=by
      unfold E8_
      repeat (first|rw[if_pos (by omega)]|rw[if_neg (by omega)])
      rfl
    rw[e];rfl
  have p16:=df h13;refine gx tv15 5 ?_;refine cn rfl (fun p18=>?_) fun p20=>?_
  · refine gm tv15 15 [] fun _=>?_;refine rt1 rfl rfl (ple ?_);have e:E8_ d=(⟨d.kind,d.tick,(⟨[],0,[]⟩:ShopR),(⟨[],0,0,[]⟩:Aa_),d.bind,[],0,0,0,0,0,(⟨0,[],[],[],[],0,0⟩:Mail),[]⟩:DeedR):=by
      unfold E8_
      repeat (first|rw[if_pos (by omega)]|rw[if_neg (by omega)])
      rfl
    rw[e];rfl
  refine gx tv15 6 ?_;refine cn rfl (fun p22=>?_) fun p24=>?_
  · refine gm tv15 15 [] fun _=>?_;refine rt1 rfl rfl (ple ?_);have e:E8_ d=(⟨d.kind,d.tick,(⟨[],0,[]⟩:ShopR),(⟨[],0,0,[]⟩:Aa_),(⟨[],[],false,[],[],false⟩:BindR),[],0,0,0,0,0,d.mail,[]⟩:DeedR):=by
      unfold E8_
      repeat (first|rw[if_pos (by omega)]|rw[if_neg (by omega)])
      rfl
    rw[e];rfl
  refine gx tv15 7 ?_;refine cnd rfl (fun h25=>?_) (fun h25=>?_)
  · have p26:=dt h25;refine gx tv15 2 ?_;refine cndT rfl h25 ?_;refine gm tv15 15 [] fun _=>?_;refine rt1 rfl rfl (ple ?_);have e:E8_ d=(⟨d.kind,d.tick,(⟨[],0,[]⟩:ShopR),(⟨[],0,0,[]⟩:Aa_),(⟨[],[],false,[],[],false⟩:BindR),d.name,0,0,0,0,0,(⟨0,[],[],[],[],0,0⟩:Mail),[]⟩:DeedR):=by
      unfold E8_
      repeat (first|rw[if_pos (by omega)]|rw[if_neg (by omega)])
      rfl
    rw[e];rfl
  have p28:=df h25;refine gx tv15 6 ?_;refine cnd rfl (fun h29=>?_) (fun h29=>?_)
  · have p30:=dt h29;refine gx tv15 2 ?_;refine cndT rfl h29 ?_;refine gm tv15 15 [] fun _=>?_;refine rt1 rfl rfl (ple ?_);have e:E8_ d=(⟨d.kind,d.tick,(⟨[],0,[]⟩:ShopR),(⟨[],0,0,[]⟩:Aa_),(⟨[],[],false,[],[],false⟩:BindR),d.name,0,0,0,0,0,(⟨0,[],[],[],[],0,0⟩:Mail),[]⟩:DeedR):=by
      unfold E8_
      repeat (first|rw[if_pos (by omega)]|rw[if_neg (by omega)])
      rfl
    rw[e];rfl
  have p32:=df h29;refine gx tv15 5 ?_;refine cn rfl (fun p34=>?_) fun p36=>?_
  · refine gm tv15 15 [] fun _=>?_;refine rt1 rfl rfl (ple ?_);have e:E8_ d=(⟨d.kind,d.tick,(⟨[],0,[]⟩:ShopR),(⟨[],0,0,[]⟩:Aa_),(⟨[],[],false,[],[],false⟩:BindR),d.name,0,0,0,0,0,(⟨0,[],[],[],[],0,0⟩:Mail),[]⟩:DeedR):=by
      unfold E8_
      repeat (first|rw[if_pos (by omega)]|rw[if_neg (by omega)])
      rfl
    rw[e];rfl
  refine gx tv15 6 ?_;refine cn rfl (fun p38=>?_) fun p40=>?_
  · refine aN [2,3,4,5,6,7,8] 12 mixd ?_;refine gX tv15 [0,1,2,3,4,5,6] 5 ?_;refine vE 7 rfl (sO tv15 ?_);refine gX tv15 [8] 3 ?_;refine vE 9 rfl (sO tv15 ?_);refine gX tv15 [10] 1 ?_;refine vT 11 rfl (sO tv15 ?_);refine vD ?_;refine gm tv15 9 [] fun _=>?_;refine rt1 rfl rfl (ple ?_);have e:E8_ d=(⟨d.kind,d.tick,(⟨[],0,[]⟩:ShopR),(⟨[],0,0,[]⟩:Aa_),(⟨[],[],false,[],[],false⟩:BindR),d.name,d.id,d.how,0,0,0,(⟨0,[],[],[],[],0,0⟩:Mail),[]⟩:DeedR):=by
      unfold E8_
      repeat (first|rw[if_pos (by omega)]|rw[if_neg (by omega)])
      rfl
    rw[e];rfl
  refine gx tv15 6 ?_;refine cn rfl (fun p42=>?_) fun p44=>?_
  · refine aN [2,3,4,5,6,7,8] 12 mixd ?_;refine gX tv15 [0,1,2,3,4,5,6] 5 ?_;refine vE 7 rfl (sO tv15 ?_);refine gX tv15 [8] 3 ?_;refine vE 9 rfl (sO tv15 ?_);refine gX tv15 [10] 1 ?_;refine vT 11 rfl (sA tv15 ?_);refine vD ?_;refine gm tv15 9 [] fun _=>?_;refine rt1 rfl rfl (ple ?_);have e:E8_ d=(⟨d.kind,d.tick,(⟨[],0,[]⟩:ShopR),(⟨[],0,0,[]⟩:Aa_),(⟨[],[],false,[],[],false⟩:BindR),[],0,0,d.frm,0,d.number,d.mail,[]⟩:DeedR):=by
      unfold E8_
      repeat (first|rw[if_pos (by omega)]|rw[if_neg (by omega)])
      rfl
    rw[e];rfl
  refine gx tv15 6 ?_;refine cn rfl (fun p46=>?_) fun p48=>?_
  · refine aN [2,3,4,5,6,7,8] 8 mixd ?_;refine gX tv15 [0,1,2,3,4] 3 ?_;refine vE 5 rfl (sO tv15 ?_);refine gX tv15 [6] 1 ?_;refine vT 7 rfl (sO tv15 ?_);refine vD ?_;refine gm tv15 9 [] fun _=>?_;refine rt1 rfl rfl (ple ?_);have e:E8_ d=(⟨d.kind,d.tick,(⟨[],0,[]⟩:ShopR),(⟨[],0,0,[]⟩:Aa_),(⟨[],[],false,[],[],false⟩:BindR),[],0,0,0,d.code,0,(⟨0,[],[],[],[],0,0⟩:Mail),d.text⟩:DeedR):=by
      unfold E8_
      repeat (first|rw[if_pos (by omega)]|rw[if_neg (by omega)])
      rfl
    rw[e];rfl
  refine gm tv15 10 [] fun _=>?_;refine rt1 rfl rfl (ple ?_);have e:E8_ d=(⟨d.kind,d.tick,(⟨[],0,[]⟩:ShopR),(⟨[],0,0,[]⟩:Aa_),(⟨[],[],false,[],[],false⟩:BindR),[],0,0,0,0,0,(⟨0,[],[],[],[],0,0⟩:Mail),[]⟩:DeedR):=by
    unfold E8_
    repeat (first|rw[if_pos (by omega)]|rw[if_neg (by omega)])
    rfl
  rw[e];rfl
theorem I8_ (l:List Int):Fn Tryz.prog gb 217 [.sl i64c l] (.int .i64 (Bz_ l)):=by
  refine fC Tryz.func217 tv15 Tryz.ntmps217 fun w N H hG=>?_;have l_l:l.length<=140737488355328:=w.1.1;refine gx tv15 14 ?_;refine loop (ι:=Nat) [0,5,6] [] (fun k=>[(7, .int .i64 (k:Int))]) (fun k=>[]) (fun k=>k<=l.length/\Bz_ l=Bz_ (l.drop k)) (fun k=>l.length-k) 0 ⟨rfl,trivial⟩ trivial ?_ ?_
  · exact⟨Nat.zero_le _,rfl⟩
  rintro k hp1;obtain⟨hk1,hk2⟩:=hp1;refine gx tv15 6 ?_;refine cn rfl (fun p3=>?_) fun p12=>?_
  · obtain⟨c4,hc5⟩:=getE (xs:=l) (m:=k) (by omega);refine gx tv15 6 ?_;refine q1 (qidx tv15 k rfl rfl rfl hc5 rfl rfl rfl rfl) rfl fun w6=>?_;refine gx tv15 10 ?_;refine cnd rfl (fun h7=>?_) (fun h7=>?_)
    · have h8:=Br_ h7;have p9:=df h8;refine gx tv15 12 ?_;refine rt1 rfl rfl (ple ?_);refine congrArg (PV.int .i64) ?_
      rw[hk2,C3_ hc5]
      unfold Bz_
      rw[if_pos (by assumption)]
    have h10:=Bf_ h7;have p11:=dt h10;refine gy tv15 7 ?_;refine next (k+1) rfl rfl ⟨rfl,trivial⟩ trivial ?_ ?_
    · omega
    refine⟨by omega,?_⟩
    rw[hk2,C3_ hc5]
    conv=>lhs;unfold Bz_
    rw[if_neg (by omega)]
  refine gx tv15 11 ?_;refine rt1 rfl rfl (ple ?_);refine congrArg (PV.int .i64) ?_
  rw[hk2,List.drop_of_length_le (by omega)]
  rfl
theorem S0_ (d:DeedR):Fn Tryz.prog gb 175 [.agg (DeedR.pc d)] (.int .i64 (B9_ d)):=by
  refine fC Tryz.func175 tv15 Tryz.ntmps175 fun w N H hG=>?_;refine gm tv15 16 [0] fun B2=>?_;refine cn rfl (fun p4=>?_) fun p5=>?_
  · refine gx tv15 8 ?_;refine rt1 rfl rfl (ple ?_);refine congrArg (PV.int .i64) ?_
    unfold B9_
    repeat (first|rw[if_pos (by omega)]|rw[if_neg (by omega)]|rw[if_pos (by assumption)]|rw[if_neg (not_not_intro (by assumption))])
    all_goals first|done|rfl
  refine gx tv15 1 ?_;refine aN [1,2,3,4,5,6] 6 mixd ?_;refine gX tv15 [0,1] 4 ?_;refine vE 2 rfl (eC (deed_told _) rfl fun w6=>?_);refine vC 3 rfl (deed_Same _ _) rfl fun w7=>?_;refine gX tv15 [4,5] 0 ?_;refine vD ?_;refine gx tv15 1 ?_;refine cnd rfl (fun h8=>?_) (fun h8=>?_)
  · have h9:=Br_ h8;have p10:=df h9;refine gx tv15 8 ?_;refine rt1 rfl rfl (ple ?_);refine congrArg (PV.int .i64) ?_
    unfold B9_
    repeat (first|rw[if_pos (by omega)]|rw[if_neg (by omega)]|rw[if_pos (by assumption)]|rw[if_neg (not_not_intro (by assumption))])
    all_goals first|done|rfl
  have h11:=Bf_ h8;have p12:=dt h11;refine gx tv15 17 ?_;refine cn rfl (fun p14=>?_) fun p20=>?_
  · refine gx tv15 1 ?_;refine aN [1,2,3,4,5,6] 16 mixd ?_;refine gX tv15 [0,1,2] 13 ?_;refine vC 3 rfl (Ck_ _) rfl fun w15=>?_;refine gX tv15 [4,5,6,7] 8 ?_;refine vC 8 rfl (Jf_ _ _) rfl fun w16=>?_;refine gX tv15 [9,10,11] 4 ?_;refine vC 12 rfl (Tc_ _) rfl fun w17=>?_;have :=Jr_ d.shop.to;refine vE 13 rfl (bsl 1 i64c [Cr_ d.shop.name,Bq_ (decide (4<d.shop.sort)) 8,Ih_ d.shop.to] tv15 rfl rfl rfl rfl rfl (fun _=>rfl) rfl (by decide) (by decide) rfl fun u18=>?_);refine vE 14 rfl (calll 1 rfl (I8_ _) rfl rfl rfl fun w19=>?_);refine gX tv15 [15] 0 ?_;refine vD ?_;refine gx tv15 4 ?_;refine rt1 rfl rfl (ple ?_);refine congrArg (PV.int .i64) ?_
    unfold B9_
    repeat (first|rw[if_pos (by omega)]|rw[if_neg (by omega)]|rw[if_pos (by assumption)]|rw[if_neg (not_not_intro (by assumption))])
    all_goals first|done|rfl
  refine gx tv15 6 ?_;refine cn rfl (fun p22=>?_) fun p27=>?_
  · refine gx tv15 1 ?_;refine aN [1,2,3,4,5,6] 11 mixd ?_;refine gX tv15 [0,1,2] 8 ?_;refine vC 3 rfl (Ck_ _) rfl fun w23=>?_;refine gX tv15 [4,5,6] 4 ?_;refine vC 7 rfl (Tc_ _) rfl fun w24=>?_;have :=Jr_ d.queue.dead;refine vE 8 rfl (bsl 1 i64c [Cr_ d.queue.name,Ih_ d.queue.dead] tv15 rfl rfl rfl rfl rfl (fun _=>rfl) rfl (by decide) (by decide) rfl fun u25=>?_);refine vE 9 rfl (calll 1 rfl (I8_ _) rfl rfl rfl fun w26=>?_);refine gX tv15 [10] 0 ?_;refine vD ?_;refine gx tv15 4 ?_;refine rt1 rfl rfl (ple ?_);refine congrArg (PV.int .i64) ?_
    unfold B9_
    repeat (first|rw[if_pos (by omega)]|rw[if_neg (by omega)]|rw[if_pos (by assumption)]|rw[if_neg (not_not_intro (by assumption))])
    all_goals first|done|rfl
  refine gx tv15 7 ?_;refine cnd rfl (fun h28=>?_) (fun h28=>?_)
  · have p29:=dt h28;refine gx tv15 2 ?_;refine cndT rfl h28 ?_;refine gm tv15 9 [1] fun B31=>?_;refine aN [2,3,4,5,6,7] 17 mixd ?_;refine gX tv15 [0,1] 15 ?_;refine vC 2 rfl (Ck_ _) rfl fun w32=>?_;refine gX tv15 [3,4] 12 ?_;refine vC 5 rfl (Ck_ _) rfl fun w33=>?_;refine gX tv15 [6,7,8,9] 7 ?_;refine vC 10 rfl (Jf_ _ _) rfl fun w34=>?_;refine gX tv15 [11,12] 4 ?_;refine vC 13 rfl (Gj_ _) rfl fun w35=>?_;refine vE 14 rfl (bsl 2 i64c [Cr_ d.bind.shop,Cr_ d.bind.to,Bq_ (decide (64<(d.bind.key.length:Int))) 5,Df_ d.bind.want] tv15 rfl rfl rfl rfl rfl (fun _=>rfl) rfl (by decide) (by decide) rfl fun u36=>?_);refine vE 15 rfl (calll 2 rfl (I8_ _) rfl rfl rfl fun w37=>?_);refine gX tv15 [16] 0 ?_;refine vD ?_;refine gx tv15 4 ?_;refine rt1 rfl rfl (ple ?_);refine congrArg (PV.int .i64) ?_
    unfold B9_
    repeat (first|rw[if_pos (by omega)]|rw[if_neg (by omega)]|rw[if_pos (by assumption)]|rw[if_neg (not_not_intro (by assumption))])
    all_goals first|done|rfl
  have p38:=df h28;refine gx tv15 5 ?_;refine cn rfl (fun p40=>?_) fun p49=>?_
  · refine gm tv15 9 [1] fun B42=>?_;refine aN [2,3,4,5,6,7] 17 mixd ?_;refine gX tv15 [0,1] 15 ?_;refine vC 2 rfl (Ck_ _) rfl fun w43=>?_;refine gX tv15 [3,4] 12 ?_;refine vC 5 rfl (Ck_ _) rfl fun w44=>?_;refine gX tv15 [6,7,8,9] 7 ?_;refine vC 10 rfl (Jf_ _ _) rfl fun w45=>?_;refine gX tv15 [11,12] 4 ?_;refine vC 13 rfl (Gj_ _) rfl fun w46=>?_;refine vE 14 rfl (bsl 2 i64c [Cr_ d.bind.shop,Cr_ d.bind.to,Bq_ (decide (64<(d.bind.key.length:Int))) 5,Df_ d.bind.want] tv15 rfl rfl rfl rfl rfl (fun _=>rfl) rfl (by decide) (by decide) rfl fun u47=>?_);refine vE 15 rfl (calll 2 rfl (I8_ _) rfl rfl rfl fun w48=>?_);refine gX tv15 [16] 0 ?_;refine vD ?_;refine gx tv15 4 ?_;refine rt1 rfl rfl (ple ?_);refine congrArg (PV.int .i64) ?_
    unfold B9_
    repeat (first|rw[if_pos (by omega)]|rw[if_neg (by omega)]|rw[if_pos (by assumption)]|rw[if_neg (not_not_intro (by assumption))])
    all_goals first|done|rfl
  refine gx tv15 7 ?_;refine cnd rfl (fun h50=>?_) (fun h50=>?_)
  · have p51:=dt h50;refine gx tv15 2 ?_;refine cndT rfl h50 ?_;refine gx tv15 4 ?_;refine call (Oe_ _) rfl rfl fun w52=>?_;have :=Oc_ d.mail;have hmo52:=fun h=>J2_ (m:=d.mail) h;refine gx tv15 6 ?_;refine rt1 rfl rfl (ple ?_);refine congrArg (PV.int .i64) ?_
    unfold B9_
    repeat (first|rw[if_pos (by omega)]|rw[if_neg (by omega)]|rw[if_pos (by assumption)]|rw[if_neg (not_not_intro (by assumption))])
    all_goals first|done|rfl
  have p53:=df h50;refine gx tv15 5 ?_;refine cn rfl (fun p55=>?_) fun p57=>?_
  · refine gx tv15 4 ?_;refine call (Oe_ _) rfl rfl fun w56=>?_;have :=Oc_ d.mail;have hmo56:=fun h=>J2_ (m:=d.mail) h;refine gx tv15 6 ?_;refine rt1 rfl rfl (ple ?_);refine congrArg (PV.int .i64) ?_
    unfold B9_
    repeat (first|rw[if_pos (by omega)]|rw[if_neg (by omega)]|rw[if_pos (by assumption)]|rw[if_neg (not_not_intro (by assumption))])
    all_goals first|done|rfl
  refine gx tv15 7 ?_;refine cnd rfl (fun h58=>?_) (fun h58=>?_)
  · have p59:=dt h58;refine gx tv15 2 ?_;refine cndT rfl h58 ?_;refine gx tv15 8 ?_;refine rt1 rfl rfl (ple ?_);refine congrArg (PV.int .i64) ?_
    unfold B9_
    repeat (first|rw[if_pos (by omega)]|rw[if_neg (by omega)]|rw[if_pos (by assumption)]|rw[if_neg (not_not_intro (by assumption))])
    all_goals first|done|rfl
  have p60:=df h58;refine gx tv15 5 ?_;refine cn rfl (fun p62=>?_) fun p63=>?_
  · refine gx tv15 8 ?_;refine rt1 rfl rfl (ple ?_);refine congrArg (PV.int .i64) ?_
    unfold B9_
    repeat (first|rw[if_pos (by omega)]|rw[if_neg (by omega)]|rw[if_pos (by assumption)]|rw[if_neg (not_not_intro (by assumption))])
    all_goals first|done|rfl
  refine gx tv15 6 ?_;refine cn rfl (fun p65=>?_) fun p67=>?_
  · refine gx tv15 6 ?_;refine call (Jf_ _ _) rfl rfl fun w66=>?_;refine gx tv15 6 ?_;refine rt1 rfl rfl (ple ?_);refine congrArg (PV.int .i64) ?_
    unfold B9_
    repeat (first|rw[if_pos (by omega)]|rw[if_neg (by omega)]|rw[if_pos (by assumption)]|rw[if_neg (not_not_intro (by assumption))])
    all_goals first|done|rfl
  refine gx tv15 4 ?_;refine aN [1,2,3,4,5,6] 10 mixd ?_;refine gX tv15 [0,1] 8 ?_;refine vC 2 rfl (Ck_ _) rfl fun w68=>?_;refine gX tv15 [3,4,5] 4 ?_;refine vC 6 rfl (Jf_ _ _) rfl fun w69=>?_;refine vE 7 rfl (bsl 1 i64c [Cr_ d.name,Bq_ (decide (2<d.how)) 7] tv15 rfl rfl rfl rfl rfl (fun _=>rfl) rfl (by decide) (by decide) rfl fun u70=>?_);refine vE 8 rfl (calll 1 rfl (I8_ _) rfl rfl rfl fun w71=>?_);refine gX tv15 [9] 0 ?_;refine vD ?_;refine gx tv15 2 ?_;refine rt1 rfl rfl (ple ?_);refine congrArg (PV.int .i64) ?_
  unfold B9_
  repeat (first|rw[if_pos (by omega)]|rw[if_neg (by omega)]|rw[if_pos (by assumption)]|rw[if_neg (not_not_intro (by assumption))])
  all_goals first|done|rfl
def tbv16:Tb:=[(4,ty4),(5,ty5),(9,ty9),(27,ty27),(44,ty44),(46,ty46),(47,ty47),(49,ty49),(51,ty51),(53,ty53),(285,We_)]
theorem tv16:tbB Tryz.prog tbv16=true:=by kernel_rfl
theorem deed_Bytes (d:DeedR):Fn Tryz.prog gb 212 [.agg (DeedR.pc d)] (.tup [.str (Aw_ d), .int .i64 (B9_ d)]):=by
  refine fC Tryz.func212 tv16 Tryz.ntmps212 fun w N H hG=>?_;have d_w:=DeedR.pwf w.1;have d_w':=d_w
  simp only[DeedR.wf,ShopR.wf,Aa_.wf,BindR.wf,Mail.wf] at d_w'
  have d_bind_want_k:=DeedR.kd13 w.1;have d_bind_want_k2:d.bind.want.length<=140737488355328:=w.1.2.2.2.2.2.2.2.2.2.2.2.2.2.1.1;have d_mail_head_k:=DeedR.kd24 w.1;have d_mail_head_k2:d.mail.head.length<=140737488355328:=w.1.2.2.2.2.2.2.2.2.2.2.2.2.2.2.2.2.2.2.2.2.2.2.2.2.1.1;refine gm tv16 11 [0] fun B2=>?_;refine call (S0_ _) rfl rfl fun w3=>?_;have :=Ti_ d;refine gx tv16 9 ?_;refine cnd rfl (fun h4=>?_) (fun h4=>?_)
  · have h5:=Br_ h4;have p6:=df h5;refine gx tv16 9 ?_;refine rt2 rfl rfl ?_;refine ple ?_;have e:Aw_ d=[]:=by
      unfold Aw_
      first
        |(rw[if_neg (by assumption)];done)
        |(rw[if_pos (by assumption)];unfold F4_;(repeat (first|rw[if_pos (by omega)]|rw[if_neg (by omega)]|rw[if_pos (by assumption)]|rw[if_neg (by assumption)]|rw[if_neg (not_not_intro (by assumption))]));first|done|rfl)
    rw[e]
    try (rw[show B9_ d=0 by assumption])
  have h7:=Bf_ h4;have p8:=dt h7;have hdk:=O1_ (d:=d) (by omega) p8;obtain⟨dk1,dk2,dk3,dk4,dk5,dk6,dk7,dk8,dk9,dk10,dk11,dk12,dk13,dk14,dk15,dk16,dk17,dk18,dk19⟩:=hdk;refine gx tv16 3 ?_;refine aN [1,2,3,4,5,6] 10 mixd ?_;refine gX tv16 [0,1,2,3] 6 ?_;refine vC 4 rfl (out_Num (⟨[],0⟩:Out) _ _ (by ((try have :=hrl (by assumption));first|omega|(simp[C_,At_,Ad_,numK]<;>omega)))) rfl fun w9=>?_;have nl0:(⟨[],0⟩:Out).s.length=0:=rfl;have :=P_ (⟨[],0⟩:Out) d.kind 1;refine gX tv16 [5,6] 3 ?_;refine vC 7 rfl (out_Num _ _ _ (by ((try have :=hrl (by assumption));first|omega|(simp[C_,At_,Ad_,numK]<;>omega)))) rfl fun w10=>?_;have :=P_ (C_ (⟨[],0⟩:Out) d.kind 1) d.tick 8;refine vE 8 rfl (aL tv16 1 fun b11=>?_);refine vT 9 rfl (sA tv16 ?_);refine vD ?_;refine gx tv16 5 ?_;refine call (Ry_ _) rfl rfl fun w12=>?_;have :=Jj_ d.mail;refine gx tv16 21 ?_;refine cn rfl (fun p14=>?_) fun p19=>?_
  · refine aN [2,3,4,5,6,7] 15 mixd ?_;refine gX tv16 [0,1,2,3] 11 ?_;refine vC 4 rfl (Bl_ _ _) rfl fun w15=>?_;have :=T_ (C_ (C_ (⟨[],0⟩:Out) d.kind 1) d.tick 8) d.shop.name;refine gX tv16 [5,6,7,8] 6 ?_;refine vC 9 rfl (out_Num _ _ _ (by ((try have :=hrl (by assumption));first|omega|(simp[C_,At_,Ad_,numK]<;>omega)))) rfl fun w16=>?_;have :=P_ (D_ (C_ (C_ (⟨[],0⟩:Out) d.kind 1) d.tick 8) d.shop.name) d.shop.sort 1;refine gX tv16 [10,11,12] 2 ?_;refine vC 13 rfl (Bl_ _ _) rfl fun w17=>?_;have :=T_ (C_ (D_ (C_ (C_ (⟨[],0⟩:Out) d.kind 1) d.tick 8) d.shop.name) d.shop.sort 1) d.shop.to;refine vT 14 rfl (sA tv16 ?_);refine vD ?_;refine gx tv16 5 ?_;refine call (Ay_ _) rfl rfl fun w18=>?_;refine gx tv16 5 ?_;refine rt2 rfl rfl ?_;refine ple ?_;have e:Aw_ d=(D_ (C_ (D_ (C_ (C_ (⟨[],0⟩:Out) d.kind 1) d.tick 8) d.shop.name) d.shop.sort 1) d.shop.to).s:=by
      unfold Aw_
      first
        |(rw[if_neg (by assumption)];done)
        |(rw[if_pos (by assumption)];unfold F4_;(repeat (first|rw[if_pos (by omega)]|rw[if_neg (by omega)]|rw[if_pos (by assumption)]|rw[if_neg (by assumption)]|rw[if_neg (not_not_intro (by assumption))]));first|done|rfl)
    rw[e]
    try (rw[show B9_ d=0 by assumption])
  refine gx tv16 6 ?_;refine cn rfl (fun p21=>?_) fun p27=>?_
  · refine aN [2,3,4,5,6,7] 18 mixd ?_;refine gX tv16 [0,1,2,3] 14 ?_;refine vC 4 rfl (Bl_ _ _) rfl fun w22=>?_;have :=T_ (C_ (C_ (⟨[],0⟩:Out) d.kind 1) d.tick 8) d.queue.name;refine gX tv16 [5,6,7] 10 ?_;refine vC 8 rfl (out_Num _ _ _ (by ((try have :=hrl (by assumption));first|omega|(simp[C_,At_,Ad_,numK]<;>omega)))) rfl fun w23=>?_;have :=P_ (D_ (C_ (C_ (⟨[],0⟩:Out) d.kind 1) d.tick 8) d.queue.name) d.queue.most 8;refine gX tv16 [9,10,11] 6 ?_;refine vC 12 rfl (out_Num _ _ _ (by ((try have :=hrl (by assumption));first|omega|(simp[C_,At_,Ad_,numK]<;>omega)))) rfl fun w24=>?_;have :=P_ (C_ (D_ (C_ (C_ (⟨[],0⟩:Out) d.kind 1) d.tick 8) d.queue.name) d.queue.most 8) d.queue.life 8;refine gX tv16 [13,14,15] 2 ?_;refine vC 16 rfl (Bl_ _ _) rfl fun w25=>?_;have :=T_ (C_ (C_ (D_ (C_ (C_ (⟨[],0⟩:Out) d.kind 1) d.tick 8) d.queue.name) d.queue.most 8) d.queue.life 8) d.queue.dead;refine vT 17 rfl (sA tv16 ?_);refine vD ?_;refine gx tv16 5 ?_;refine call (Ay_ _) rfl rfl fun w26=>?_;refine gx tv16 5 ?_;refine rt2 rfl rfl ?_;refine ple ?_;have e:Aw_ d=(D_ (C_ (C_ (D_ (C_ (C_ (⟨[],0⟩:Out) d.kind 1) d.tick 8) d.queue.name) d.queue.most 8) d.queue.life 8) d.queue.dead).s:=by
      unfold Aw_
      first
        |(rw[if_neg (by assumption)];done)
        |(rw[if_pos (by assumption)];unfold F4_;(repeat (first|rw[if_pos (by omega)]|rw[if_neg (by omega)]|rw[if_pos (by assumption)]|rw[if_neg (by assumption)]|rw[if_neg (not_not_intro (by assumption))]));first|done|rfl)
    rw[e]
    try (rw[show B9_ d=0 by assumption])
  refine gx tv16 7 ?_;refine cnd rfl (fun h28=>?_) (fun h28=>?_)
  · have p29:=dt h28;refine gx tv16 2 ?_;refine cndT rfl h28 ?_;refine gm tv16 12 [2] fun B31=>?_;refine call (G2_ _) rfl rfl fun w32=>?_;have :=D0_ d.bind.want;refine gx tv16 7 ?_;refine aN [3,4,5,6,7,8] 21 mixd ?_;refine gX tv16 [0,1,2] 18 ?_;refine vC 3 rfl (Bl_ _ _) rfl fun w33=>?_;have :=T_ (C_ (C_ (⟨[],0⟩:Out) d.kind 1) d.tick 8) d.bind.shop;refine gX tv16 [4,5] 15 ?_;refine vC 6 rfl (Bl_ _ _) rfl fun w34=>?_;have :=T_ (D_ (C_ (C_ (⟨[],0⟩:Out) d.kind 1) d.tick 8) d.bind.shop) d.bind.to;refine gX tv16 [7,8] 12 ?_;refine vC 9 rfl (Oy_ _) rfl fun w35=>?_;refine vC 10 rfl (out_Num _ _ _ (by ((try have :=hrl (by assumption));first|omega|(simp[C_,At_,Ad_,numK]<;>omega)))) rfl fun w36=>?_;have :=P_ (D_ (D_ (C_ (C_ (⟨[],0⟩:Out) d.kind 1) d.tick 8) d.bind.shop) d.bind.to) (bitN d.bind.up) 1;refine gX tv16 [11,12] 8 ?_;refine vC 13 rfl (Bl_ _ _) rfl fun w37=>?_;have :=T_ (C_ (D_ (D_ (C_ (C_ (⟨[],0⟩:Out) d.kind 1) d.tick 8) d.bind.shop) d.bind.to) (bitN d.bind.up) 1) d.bind.key;refine gX tv16 [14] 6 ?_;refine vC 15 rfl (Jm_ _ _) rfl fun w38=>?_;have :=E0_ (D_ (C_ (D_ (D_ (C_ (C_ (⟨[],0⟩:Out) d.kind 1) d.tick 8) d.bind.shop) d.bind.to) (bitN d.bind.up) 1) d.bind.key) (Av_ d.bind.want);refine gX tv16 [16,17] 3 ?_;refine vC 18 rfl (Oy_ _) rfl fun w39=>?_;refine vC 19 rfl (out_Num _ _ _ (by ((try have :=hrl (by assumption));first|omega|(simp[C_,At_,Ad_,numK]<;>omega)))) rfl fun w40=>?_;have :=P_ (At_ (D_ (C_ (D_ (D_ (C_ (C_ (⟨[],0⟩:Out) d.kind 1) d.tick 8) d.bind.shop) d.bind.to) (bitN d.bind.up) 1) d.bind.key) (Av_ d.bind.want)) (bitN d.bind.all) 1;refine vT 20 rfl (sA tv16 ?_);refine vD ?_;refine gx tv16 5 ?_;refine call (Ay_ _) rfl rfl fun w41=>?_;refine gx tv16 5 ?_;refine rt2 rfl rfl ?_;refine ple ?_;have e:Aw_ d=(C_ (At_ (D_ (C_ (D_ (D_ (C_ (C_ (⟨[],0⟩:Out) d.kind 1) d.tick 8) d.bind.shop) d.bind.to) (bitN d.bind.up) 1) d.bind.key) (Av_ d.bind.want)) (bitN d.bind.all) 1).s:=by
      unfold Aw_
      first
        |(rw[if_neg (by assumption)];done)
        |(rw[if_pos (by assumption)];unfold F4_;(repeat (first|rw[if_pos (by omega)]|rw[if_neg (by omega)]|rw[if_pos (by assumption)]|rw[if_neg (by assumption)]|rw[if_neg (not_not_intro (by assumption))]));first|done|rfl)
    rw[e]
    try (rw[show B9_ d=0 by assumption])
  have p42:=df h28;refine gx tv16 5 ?_;refine cn rfl (fun p44=>?_) fun p57=>?_
  · refine gm tv16 12 [2] fun B46=>?_;refine call (G2_ _) rfl rfl fun w47=>?_;have :=D0_ d.bind.want;refine gx tv16 7 ?_;refine aN [3,4,5,6,7,8] 21 mixd ?_;refine gX tv16 [0,1,2] 18 ?_;refine vC 3 rfl (Bl_ _ _) rfl fun w48=>?_;have :=T_ (C_ (C_ (⟨[],0⟩:Out) d.kind 1) d.tick 8) d.bind.shop;refine gX tv16 [4,5] 15 ?_;refine vC 6 rfl (Bl_ _ _) rfl fun w49=>?_;have :=T_ (D_ (C_ (C_ (⟨[],0⟩:Out) d.kind 1) d.tick 8) d.bind.shop) d.bind.to;refine gX tv16 [7,8] 12 ?_;refine vC 9 rfl (Oy_ _) rfl fun w50=>?_;refine vC 10 rfl (out_Num _ _ _ (by ((try have :=hrl (by assumption));first|omega|(simp[C_,At_,Ad_,numK]<;>omega)))) rfl fun w51=>?_;have :=P_ (D_ (D_ (C_ (C_ (⟨[],0⟩:Out) d.kind 1) d.tick 8) d.bind.shop) d.bind.to) (bitN d.bind.up) 1;refine gX tv16 [11,12] 8 ?_;refine vC 13 rfl (Bl_ _ _) rfl fun w52=>?_;have :=T_ (C_ (D_ (D_ (C_ (C_ (⟨[],0⟩:Out) d.kind 1) d.tick 8) d.bind.shop) d.bind.to) (bitN d.bind.up) 1) d.bind.key;refine gX tv16 [14] 6 ?_;refine vC 15 rfl (Jm_ _ _) rfl fun w53=>?_;have :=E0_ (D_ (C_ (D_ (D_ (C_ (C_ (⟨[],0⟩:Out) d.kind 1) d.tick 8) d.bind.shop) d.bind.to) (bitN d.bind.up) 1) d.bind.key) (Av_ d.bind.want);refine gX tv16 [16,17] 3 ?_;refine vC 18 rfl (Oy_ _) rfl fun w54=>?_;refine vC 19 rfl (out_Num _ _ _ (by ((try have :=hrl (by assumption));first|omega|(simp[C_,At_,Ad_,numK]<;>omega)))) rfl fun w55=>?_;have :=P_ (At_ (D_ (C_ (D_ (D_ (C_ (C_ (⟨[],0⟩:Out) d.kind 1) d.tick 8) d.bind.shop) d.bind.to) (bitN d.bind.up) 1) d.bind.key) (Av_ d.bind.want)) (bitN d.bind.all) 1;refine vT 20 rfl (sA tv16 ?_);refine vD ?_;refine gx tv16 5 ?_;refine call (Ay_ _) rfl rfl fun w56=>?_;refine gx tv16 5 ?_;refine rt2 rfl rfl ?_;refine ple ?_;have e:Aw_ d=(C_ (At_ (D_ (C_ (D_ (D_ (C_ (C_ (⟨[],0⟩:Out) d.kind 1) d.tick 8) d.bind.shop) d.bind.to) (bitN d.bind.up) 1) d.bind.key) (Av_ d.bind.want)) (bitN d.bind.all) 1).s:=by
      unfold Aw_
      first
        |(rw[if_neg (by assumption)];done)
        |(rw[if_pos (by assumption)];unfold F4_;(repeat (first|rw[if_pos (by omega)]|rw[if_neg (by omega)]|rw[if_pos (by assumption)]|rw[if_neg (by assumption)]|rw[if_neg (not_not_intro (by assumption))]));first|done|rfl)
    rw[e]
    try (rw[show B9_ d=0 by assumption])
  refine gx tv16 6 ?_;refine cn rfl (fun p59=>?_) fun p63=>?_
  · refine gx tv16 3 ?_;refine call (Jm_ _ _) rfl rfl fun w60=>?_;have :=E0_ (C_ (C_ (⟨[],0⟩:Out) d.kind 1) d.tick 8) (Ed_ d.mail);refine gm tv16 7 [] fun _=>?_;refine call (Ay_ _) rfl rfl fun w62=>?_;refine gx tv16 5 ?_;refine rt2 rfl rfl ?_;refine ple ?_;have e:Aw_ d=(At_ (C_ (C_ (⟨[],0⟩:Out) d.kind 1) d.tick 8) (Ed_ d.mail)).s:=by
      unfold Aw_
      first
        |(rw[if_neg (by assumption)];done)
        |(rw[if_pos (by assumption)];unfold F4_;(repeat (first|rw[if_pos (by omega)]|rw[if_neg (by omega)]|rw[if_pos (by assumption)]|rw[if_neg (by assumption)]|rw[if_neg (not_not_intro (by assumption))]));first|done|rfl)
    rw[e]
    try (rw[show B9_ d=0 by assumption])
  refine gx tv16 7 ?_;refine cnd rfl (fun h64=>?_) (fun h64=>?_)
  · have p65:=dt h64;refine gx tv16 2 ?_;refine cndT rfl h64 ?_;refine gx tv16 4 ?_;refine call (Bl_ _ _) rfl rfl fun w66=>?_;have :=T_ (C_ (C_ (⟨[],0⟩:Out) d.kind 1) d.tick 8) d.name;refine gm tv16 7 [] fun _=>?_;refine call (Ay_ _) rfl rfl fun w68=>?_;refine gx tv16 5 ?_;refine rt2 rfl rfl ?_;refine ple ?_;have e:Aw_ d=(D_ (C_ (C_ (⟨[],0⟩:Out) d.kind 1) d.tick 8) d.name).s:=by
      unfold Aw_
      first
        |(rw[if_neg (by assumption)];done)
        |(rw[if_pos (by assumption)];unfold F4_;(repeat (first|rw[if_pos (by omega)]|rw[if_neg (by omega)]|rw[if_pos (by assumption)]|rw[if_neg (by assumption)]|rw[if_neg (not_not_intro (by assumption))]));first|done|rfl)
    rw[e]
    try (rw[show B9_ d=0 by assumption])
  have p69:=df h64;refine gx tv16 6 ?_;refine cnd rfl (fun h70=>?_) (fun h70=>?_)
  · have p71:=dt h70;refine gx tv16 2 ?_;refine cndT rfl h70 ?_;refine gx tv16 4 ?_;refine call (Bl_ _ _) rfl rfl fun w72=>?_;have :=T_ (C_ (C_ (⟨[],0⟩:Out) d.kind 1) d.tick 8) d.name;refine gm tv16 7 [] fun _=>?_;refine call (Ay_ _) rfl rfl fun w74=>?_;refine gx tv16 5 ?_;refine rt2 rfl rfl ?_;refine ple ?_;have e:Aw_ d=(D_ (C_ (C_ (⟨[],0⟩:Out) d.kind 1) d.tick 8) d.name).s:=by
      unfold Aw_
      first
        |(rw[if_neg (by assumption)];done)
        |(rw[if_pos (by assumption)];unfold F4_;(repeat (first|rw[if_pos (by omega)]|rw[if_neg (by omega)]|rw[if_pos (by assumption)]|rw[if_neg (by assumption)]|rw[if_neg (not_not_intro (by assumption))]));first|done|rfl)
    rw[e]
    try (rw[show B9_ d=0 by assumption])
  have p75:=df h70;refine gx tv16 5 ?_;refine cn rfl (fun p77=>?_) fun p81=>?_
  · refine gx tv16 4 ?_;refine call (Bl_ _ _) rfl rfl fun w78=>?_;have :=T_ (C_ (C_ (⟨[],0⟩:Out) d.kind 1) d.tick 8) d.name;refine gm tv16 7 [] fun _=>?_;refine call (Ay_ _) rfl rfl fun w80=>?_;refine gx tv16 5 ?_;refine rt2 rfl rfl ?_;refine ple ?_;have e:Aw_ d=(D_ (C_ (C_ (⟨[],0⟩:Out) d.kind 1) d.tick 8) d.name).s:=by
      unfold Aw_
      first
        |(rw[if_neg (by assumption)];done)
        |(rw[if_pos (by assumption)];unfold F4_;(repeat (first|rw[if_pos (by omega)]|rw[if_neg (by omega)]|rw[if_pos (by assumption)]|rw[if_neg (by assumption)]|rw[if_neg (not_not_intro (by assumption))]));first|done|rfl)
    rw[e]
    try (rw[show B9_ d=0 by assumption])
  refine gx tv16 6 ?_;refine cn rfl (fun p83=>?_) fun p88=>?_
  · refine aN [2,3,4,5,6,7] 12 mixd ?_;refine gX tv16 [0,1,2] 9 ?_;refine vC 3 rfl (Bl_ _ _) rfl fun w84=>?_;have :=T_ (C_ (C_ (⟨[],0⟩:Out) d.kind 1) d.tick 8) d.name;refine gX tv16 [4,5] 6 ?_;refine vC 6 rfl (out_Num _ _ _ (by ((try have :=hrl (by assumption));first|omega|(simp[C_,At_,Ad_,numK]<;>omega)))) rfl fun w85=>?_;have :=P_ (D_ (C_ (C_ (⟨[],0⟩:Out) d.kind 1) d.tick 8) d.name) d.id 8;refine gX tv16 [7,8,9] 2 ?_;refine vC 10 rfl (out_Num _ _ _ (by ((try have :=hrl (by assumption));first|omega|(simp[C_,At_,Ad_,numK]<;>omega)))) rfl fun w86=>?_;have :=P_ (C_ (D_ (C_ (C_ (⟨[],0⟩:Out) d.kind 1) d.tick 8) d.name) d.id 8) d.how 1;refine vT 11 rfl (sA tv16 ?_);refine vD ?_;refine gx tv16 5 ?_;refine call (Ay_ _) rfl rfl fun w87=>?_;refine gx tv16 5 ?_;refine rt2 rfl rfl ?_;refine ple ?_;have e:Aw_ d=(C_ (C_ (D_ (C_ (C_ (⟨[],0⟩:Out) d.kind 1) d.tick 8) d.name) d.id 8) d.how 1).s:=by
      unfold Aw_
      first
        |(rw[if_neg (by assumption)];done)
        |(rw[if_pos (by assumption)];unfold F4_;(repeat (first|rw[if_pos (by omega)]|rw[if_neg (by omega)]|rw[if_pos (by assumption)]|rw[if_neg (by assumption)]|rw[if_neg (not_not_intro (by assumption))]));first|done|rfl)
    rw[e]
    try (rw[show B9_ d=0 by assumption])
  refine gx tv16 6 ?_;refine cn rfl (fun p90=>?_) fun p95=>?_
  · refine aN [2,3,4,5,6,7] 11 mixd ?_;refine gX tv16 [0,1,2,3] 7 ?_;refine vC 4 rfl (out_Num _ _ _ (by ((try have :=hrl (by assumption));first|omega|(simp[C_,At_,Ad_,numK]<;>omega)))) rfl fun w91=>?_;have :=P_ (C_ (C_ (⟨[],0⟩:Out) d.kind 1) d.tick 8) d.frm 1;refine gX tv16 [5,6] 4 ?_;refine vC 7 rfl (out_Num _ _ _ (by ((try have :=hrl (by assumption));first|omega|(simp[C_,At_,Ad_,numK]<;>omega)))) rfl fun w92=>?_;have :=P_ (C_ (C_ (C_ (⟨[],0⟩:Out) d.kind 1) d.tick 8) d.frm 1) d.number 8;refine gX tv16 [8] 2 ?_;refine vC 9 rfl (Jm_ _ _) rfl fun w93=>?_;have :=E0_ (C_ (C_ (C_ (C_ (⟨[],0⟩:Out) d.kind 1) d.tick 8) d.frm 1) d.number 8) (Ed_ d.mail);refine vT 10 rfl (sA tv16 ?_);refine vD ?_;refine gx tv16 5 ?_;refine call (Ay_ _) rfl rfl fun w94=>?_;refine gx tv16 5 ?_;refine rt2 rfl rfl ?_;refine ple ?_;have e:Aw_ d=(At_ (C_ (C_ (C_ (C_ (⟨[],0⟩:Out) d.kind 1) d.tick 8) d.frm 1) d.number 8) (Ed_ d.mail)).s:=by
      unfold Aw_
      first
        |(rw[if_neg (by assumption)];done)
        |(rw[if_pos (by assumption)];unfold F4_;(repeat (first|rw[if_pos (by omega)]|rw[if_neg (by omega)]|rw[if_pos (by assumption)]|rw[if_neg (by assumption)]|rw[if_neg (not_not_intro (by assumption))]));first|done|rfl)
    rw[e]
    try (rw[show B9_ d=0 by assumption])
  refine gx tv16 6 ?_;refine cn rfl (fun p97=>?_) fun p101=>?_
  · refine aN [2,3,4,5,6,7] 9 mixd ?_;refine gX tv16 [0,1,2,3] 5 ?_;refine vC 4 rfl (out_Num _ _ _ (by ((try have :=hrl (by assumption));first|omega|(simp[C_,At_,Ad_,numK]<;>omega)))) rfl fun w98=>?_;have :=P_ (C_ (C_ (⟨[],0⟩:Out) d.kind 1) d.tick 8) d.code 1;refine gX tv16 [5,6] 2 ?_;refine vC 7 rfl (Bl_ _ _) rfl fun w99=>?_;have :=T_ (C_ (C_ (C_ (⟨[],0⟩:Out) d.kind 1) d.tick 8) d.code 1) d.text;refine vT 8 rfl (sA tv16 ?_);refine vD ?_;refine gx tv16 5 ?_;refine call (Ay_ _) rfl rfl fun w100=>?_;refine gx tv16 5 ?_;refine rt2 rfl rfl ?_;refine ple ?_;have e:Aw_ d=(D_ (C_ (C_ (C_ (⟨[],0⟩:Out) d.kind 1) d.tick 8) d.code 1) d.text).s:=by
      unfold Aw_
      first
        |(rw[if_neg (by assumption)];done)
        |(rw[if_pos (by assumption)];unfold F4_;(repeat (first|rw[if_pos (by omega)]|rw[if_neg (by omega)]|rw[if_pos (by assumption)]|rw[if_neg (by assumption)]|rw[if_neg (not_not_intro (by assumption))]));first|done|rfl)
    rw[e]
    try (rw[show B9_ d=0 by assumption])
  refine gx tv16 6 ?_;refine call (Ay_ _) rfl rfl fun w102=>?_;refine gx tv16 5 ?_;refine rt2 rfl rfl ?_;refine ple ?_;have e:Aw_ d=(C_ (C_ (⟨[],0⟩:Out) d.kind 1) d.tick 8).s:=by
    unfold Aw_
    first
      |(rw[if_neg (by assumption)];done)
      |(rw[if_pos (by assumption)];unfold F4_;(repeat (first|rw[if_pos (by omega)]|rw[if_neg (by omega)]|rw[if_pos (by assumption)]|rw[if_neg (by assumption)]|rw[if_neg (not_not_intro (by assumption))]));first|done|rfl)
  rw[e]
  try (rw[show B9_ d=0 by assumption])
def tbv18:Tb:=[(9,ty9),(200,Um_)]
theorem tv18:tbB Tryz.prog tbv18=true:=by kernel_rfl
theorem H7_ (s:Bs):Fn Tryz.prog gb 28 [.str s] (.int .i64 (Cr_ s)):=by
  refine fC Tryz.func28 tv18 Tryz.ntmps28 fun w N H hG=>?_;refine gx tv18 13 ?_;refine cn rfl (fun p2=>?_) fun p3=>?_
  · refine gx tv18 7 ?_;refine rt1 rfl rfl (ple ?_);have :s=[]:=List.eq_nil_of_length_eq_zero (by omega);subst this
    rfl
  refine gx tv18 10 ?_;refine cn rfl (fun p5=>?_) fun p6=>?_
  · refine gx tv18 7 ?_;refine rt1 rfl rfl (ple ?_);have hne:¬s=[]:=fun q=>by subst q;simp at *
    unfold Cr_
    rw[if_neg hne,if_pos (by omega)]
  refine gx tv18 9 ?_;refine loop (ι:=Nat) [0,4,5,6,7,8,9] [] (fun k=>[(3, .int .i64 (k:Int))]) (fun k=>[]) (fun k=>k<=s.length/\(s.drop k).all (fun c=>letter c.toNat)=plain s) (fun k=>s.length-k) 0 ⟨rfl,trivial⟩ trivial ?_ ?_
  · exact⟨by omega,rfl⟩
  rintro k hp7;obtain⟨hk1,hk2⟩:=hp7;refine gx tv18 9 ?_;refine cn rfl (fun p9=>?_) fun p15=>?_
  · have :=u8r (s.getD k 0);refine gx tv18 8 ?_;refine q1 (sidx tv18 k rfl rfl rfl rfl rfl (by omega)) rfl fun w10=>?_;refine call (W2_ _) rfl rfl fun w11=>?_;refine gx tv18 3 ?_;refine cnd rfl (fun h12=>?_) (fun h12=>?_)
    · have h13:=Br_ h12;refine gx tv18 11 ?_;refine rt1 rfl rfl (ple ?_);have hne:¬s=[]:=fun q=>by subst q;simp at *
      unfold Cr_
      rw[if_neg hne,if_neg (by omega),<- hk2,Nr_ (k:=k) (by omega)]
      simp only[*,Bool.false_and,Bool.false_eq_true,if_false]
    have h14:=Bf_ h12;refine gy tv18 8 ?_;refine next (k+1) rfl rfl ⟨rfl,trivial⟩ trivial ?_ ?_
    · omega
    refine⟨by omega,?_⟩
    rw[<- hk2,Nr_ (k:=k) (by omega)]
    simp only[*,Bool.true_and]
  refine gx tv18 11 ?_;refine rt1 rfl rfl (ple ?_);have hne:¬s=[]:=fun q=>by subst q;simp at *
  unfold Cr_
  rw[if_neg hne,if_neg (by omega),<- hk2,List.drop_of_length_le (by omega)]
  rfl
theorem r4_Split (s:Bs) (hs:s.length<=1000000:=by first|omega|(simp;done)|decide):Fn Tryz.prog gb 104 [.str s] (.sl strc (A5_ s)):=by
  refine fC Tryz.func104 tv18 Tryz.ntmps104 fun w N H hG=>?_;refine gx tv18 13 ?_;refine cn rfl (fun p2=>?_) fun p3=>?_
  · refine gx tv18 7 ?_;refine rt1 rfl rfl ?_;refine Hu_ ?_
    unfold A5_;rw[if_pos (List.eq_nil_of_length_eq_zero (by omega))]
  refine gx tv18 19 ?_;refine sw_own (t:=3) (k:=1) (e:=9) 0 strc rfl rfl ?_;refine loop (ι:=Nat×Nat×(List Bs)×Value) [0,2,6,7,8] [] (fun ⟨f,k,out,u_out⟩=>[(3, .osl 0),(4, .int .i64 (f:Int)),(5, .int .i64 (k:Int))]) (fun ⟨f,k,out,u_out⟩=>[(0, .arr u_out 1 9 strc out)]) (fun ⟨f,k,out,u_out⟩=>f<=k/\k<=s.length/\dots s=out++dots (s.drop f)/\Yv_ s f k/\out.length<=k) (fun ⟨f,k,out,u_out⟩=>s.length-k) ⟨0,0,[],(.slice none 0 0)⟩ ⟨rfl,rfl,rfl,trivial⟩ ⟨rfl,trivial⟩ ?_ ?_
  · exact⟨Nat.le_refl _,Nat.zero_le _,rfl,Vy_,Nat.zero_le _⟩
  rintro⟨f,k,out,u_out⟩ hp4;obtain⟨hk1,hk2,hk3,hk4,hk5⟩:=hp4;refine gx tv18 9 ?_;refine cn rfl (fun p6=>?_) fun p14=>?_
  · have :=u8r (s.getD k 0);refine gx tv18 8 ?_;refine q1 (sidx tv18 k rfl rfl rfl rfl rfl (by omega)) rfl fun w7=>?_;refine gx tv18 3 ?_;refine cn rfl (fun p9=>?_) fun p13=>?_
    · refine gx tv18 6 ?_;refine q1 (ssl tv18 f k rfl rfl rfl rfl rfl rfl rfl (by omega) (by omega)) rfl fun w10=>?_;refine ef (bsl 1 strc [((s.drop f).take (k-f))] tv18 rfl rfl rfl rfl rfl (fun _=>rfl) rfl (by decide) (by decide) rfl fun u11=>?_);refine ef (app tv18 [((s.drop f).take (k-f))] rfl rfl rfl rfl rfl rfl rfl rfl rfl (src_o rfl rfl) (by first|omega|(simp;omega)) rfl fun u12=>?_);refine gy tv18 15 ?_;refine next ⟨(k+1),(k+1),(out++[((s.drop f).take (k-f))]),(u12)⟩ rfl rfl ⟨rfl,rfl,rfl,trivial⟩ ⟨rfl,trivial⟩ ?_ ?_
      · (try simp only[]);omega
      (try simp only[])
      refine⟨by omega,by omega,split_hit hk3 hk4 (by omega) (by omega) (byteEq (n:=46) (by omega) (by omega)),Vy_,by simp;omega⟩
    refine gy tv18 8 ?_;refine next ⟨f,(k+1),out,(u_out)⟩ rfl rfl ⟨rfl,rfl,rfl,trivial⟩ ⟨rfl,trivial⟩ ?_ ?_
    · (try simp only[]);omega
    exact⟨by omega,by omega,hk3,noDot_step hk4 (byteNe (n:=46) (by omega) (by omega)),by omega⟩
  refine gx tv18 10 ?_;refine q1 (sslo tv18 f rfl rfl rfl rfl rfl (by omega)) rfl fun w15=>?_;refine ef (bsl 1 strc [(s.drop f)] tv18 rfl rfl rfl rfl rfl (fun _=>rfl) rfl (by decide) (by decide) rfl fun u16=>?_);refine ef (app tv18 [(s.drop f)] rfl rfl rfl rfl rfl rfl rfl rfl rfl (src_o rfl rfl) (by first|omega|(simp;omega)) rfl fun u17=>?_);refine gx tv18 3 ?_;refine givec 0 rfl ?_;refine gx tv18 1 ?_;refine rt1 rfl rfl (ple ?_);have hne:¬s=[]:=fun q=>by subst q;simp at *
  have e:A5_ s=(out++[(s.drop f)]):=by unfold A5_;rw[if_neg hne];exact split_end hk3 hk4 (by omega)
  first|(rw[e];done)|(rw[e];rfl)
theorem r4_Key (s:Bs) (pattern:Bool):Fn Tryz.prog gb 67 [.str s, .bool pattern] (.int .i64 (keyE (Cg_ pattern) s)):=by
  refine fC Tryz.func67 tv18 Tryz.ntmps67 fun w N H hG=>?_;refine gx tv18 13 ?_;refine cnd rfl (fun h1=>?_) (fun h1=>?_)
  · have p2:=dt h1;refine gx tv18 7 ?_;refine rt1 rfl rfl (ple ?_)
    unfold keyE
    rw[if_pos (by omega)]
  have p3:=df h1;refine gx tv18 6 ?_;refine call (r4_Split _) rfl rfl fun w4=>?_;refine gx tv18 5 ?_;refine loop (ι:=Nat) [0,1,9,10,11,12,13,14] [] (fun k=>[(15, .int .i64 (k:Int))]) (fun k=>[]) (fun k=>k<=(A5_ s).length/\(A5_ s).any (Lv_ (Cg_ pattern))=((A5_ s).drop k).any (Lv_ (Cg_ pattern))) (fun k=>(A5_ s).length-k) 0 ⟨rfl,trivial⟩ trivial ?_ ?_
  · exact⟨Nat.zero_le _,by simp⟩
  rintro k hp5;obtain⟨hk1,hk2⟩:=hp5;have hwl:=O3_ s;refine gx tv18 6 ?_;refine cnd rfl (fun h6=>?_) (fun h6=>?_)
  · have p7:=dt h6;obtain⟨c8,hc9⟩:=getE (xs:=A5_ s) (m:=k) (by omega);have c8_l:c8.length<=9223372036854775807:=(w4.2 c8 (List.mem_of_getElem? hc9)).1;refine gx tv18 6 ?_;refine q1 (qidx tv18 k rfl rfl rfl hc9 rfl rfl rfl rfl) rfl fun w10=>?_;refine gx tv18 19 ?_;refine loop (ι:=Nat×Bool) [0,1,6,9,10,11,12,13,14,15,16,17,18,19,20,21] [] (fun ⟨j,b⟩=>[(7, .bool b),(8, .int .i64 (j:Int))]) (fun ⟨j,b⟩=>[]) (fun ⟨j,b⟩=>j<=c8.length/\(decide ((c8.length:Int)=0)||!plain c8)=(b||!((c8.drop j).all (fun c=>letter c.toNat)))) (fun ⟨j,b⟩=>c8.length-j) ⟨0,(decide ((c8.length:Int)=0))⟩ ⟨rfl,rfl,trivial⟩ trivial ?_ ?_
    · exact⟨Nat.zero_le _,rfl⟩
    rintro⟨j,b⟩ hp11;obtain⟨hj1,hj2⟩:=hp11;refine gx tv18 9 ?_;refine cnd rfl (fun h12=>?_) (fun h12=>?_)
    · have p13:=dt h12;have :=u8r (c8.getD j 0);refine gx tv18 9 ?_;refine q1g [30,31] rfl (fun hc=>sidx tv18 j rfl rfl rfl rfl rfl (by first|omega|(simp only[gOf,bl2] at *;omega))) ⟨(fun hc=>hc),(fun hc=>hc),trivial⟩ rfl rfl rfl fun _=>?_;refine callg rfl (fun hc=>(W2_ _)) rfl ⟨(fun hc=>hc),trivial⟩ rfl rfl fun _=>?_;refine gy tv18 11 ?_;refine next ⟨(j+1),(b||(!(letter ((c8.getD j 0).toNat:Int))))⟩ rfl rfl ⟨rfl,rfl,trivial⟩ trivial ?_ ?_
      · (try simp only[]);omega
      refine⟨by omega,?_⟩
      rw[hj2,Nr_ (k:=j) (by omega)]
      simp only[*,Bool.true_or,Bool.false_or,Bool.not_and,Bool.not_true,Bool.not_false,Bool.false_and,Bool.true_and,Bool.or_assoc]
    have p14:=df h12;refine gy tv18 22 ?_;refine cnd rfl (fun h15=>?_) (fun h15=>?_)
    · have h16:=bl h15;have h17:=br h15;have h18:=Br_ h17;refine gx tv18 11 ?_;refine rt1 rfl rfl (ple ?_)
      rw[List.drop_of_length_le (by omega)] at hj2
      have hX:=hj2
      simp only[List.all_nil,Bool.not_true,Bool.or_false] at hX
      have hb:Lv_ (Cg_ pattern) c8=true:=by rw[Wu_ hX];first|(simp[*];done)|(simp_all;done)|(cases pattern<;>simp_all;done)|grind
      unfold keyE
      rw[if_neg (by omega),hk2,C3_ hc9,List.any_cons,hb]
      rfl
    refine gy tv18 7 ?_;refine next (k+1) rfl rfl ⟨rfl,trivial⟩ trivial ?_ ?_
    · omega
    refine⟨by omega,?_⟩
    rw[List.drop_of_length_le (by omega)] at hj2
    have hX:=hj2
    simp only[List.all_nil,Bool.not_true,Bool.or_false] at hX
    have hb:Lv_ (Cg_ pattern) c8=false:=by rw[Wu_ hX];first|(simp[*];done)|(simp_all;done)|(cases pattern<;>simp_all;done)|grind
    rw[hk2,C3_ hc9,List.any_cons,hb]
    simp
  have p19:=df h6;refine gx tv18 11 ?_;refine rt1 rfl rfl (ple ?_)
  unfold keyE
  rw[if_neg (by omega),hk2,List.drop_of_length_le (by omega)]
  rfl
def tbv19:Tb:=[(2,ty2),(5,ty5),(9,ty9),(47,ty47),(199,Wr_)]
theorem tv19:tbB Tryz.prog tbv19=true:=by kernel_rfl
theorem Jq_ (p:Pair) (ahead:List Pair):Fn Tryz.prog gb 105 [.agg (Pair.pc p), .sl Pair.pc ahead] (.int .i64 (Aj_ p ahead)):=by
  refine fC Tryz.func105 tv19 Tryz.ntmps105 fun w N H hG=>?_;have ahead_l:ahead.length<=140737488355328:=w.2.1.1;refine gm tv19 10 [0] fun B2=>?_;refine call (H7_ _) rfl rfl fun w3=>?_;refine gx tv19 10 ?_;refine cnd rfl (fun h4=>?_) (fun h4=>?_)
  · have h5:=Br_ h4;have p6:=df h5;refine gx tv19 8 ?_;refine rt1 rfl rfl (ple ?_);refine congrArg (PV.int .i64) ?_
    rw[Gd_]
    simp only[bl1] at *
    first|(simp[*];done)|(simp[*];omega)|((repeat' split)<;>first|rfl|omega|(exfalso;simp_all;done)|(exfalso;simp_all;omega)|grind)
  have h7:=Bf_ h4;have p8:=dt h7;refine gx tv19 10 ?_;refine cnd rfl (fun h9=>?_) (fun h9=>?_)
  · have p10:=dt h9;refine gx tv19 7 ?_;refine rt1 rfl rfl (ple ?_);refine congrArg (PV.int .i64) ?_
    rw[Gd_]
    simp only[bl1] at *
    first|(simp[*];done)|(simp[*];omega)|((repeat' split)<;>first|rfl|omega|(exfalso;simp_all;done)|(exfalso;simp_all;omega)|grind)
  have p11:=df h9;refine gy tv19 16 ?_;refine cnd rfl (fun h12=>?_) (fun h12=>?_)
  · have h13:=bl h12;have p14:=dt h13;have h15:=br h12;have p16:=dt h15;refine gx tv19 7 ?_;refine rt1 rfl rfl (ple ?_);refine congrArg (PV.int .i64) ?_
    rw[Gd_]
    simp only[bl1] at *
    first|(simp[*];done)|(simp[*];omega)|((repeat' split)<;>first|rfl|omega|(exfalso;simp_all;done)|(exfalso;simp_all;omega)|grind)
  refine gy tv19 20 ?_;refine cnd rfl (fun h17=>?_) (fun h17=>?_)
  · have h18:=bl h17;have p19:=dt h18;have h20:=br h17;refine gx tv19 7 ?_;refine rt1 rfl rfl (ple ?_);refine congrArg (PV.int .i64) ?_
    rw[Gd_]
    simp only[bl1] at *
    first|(simp[*];done)|(simp[*];omega)|((repeat' split)<;>first|rfl|omega|(exfalso;simp_all;done)|(exfalso;simp_all;omega)|grind)
  refine gy tv19 25 ?_;refine cnd rfl (fun h21=>?_) (fun h21=>?_)
  · refine gx tv19 7 ?_;refine rt1 rfl rfl (ple ?_);refine congrArg (PV.int .i64) ?_
    rw[Gd_]
    simp only[bl1] at *
    first|(simp[*];done)|(simp[*];omega)|((repeat' split)<;>first|rfl|omega|(exfalso;simp_all;done)|(exfalso;simp_all;omega)|grind)
  have h22:=orl h21;have h23:=orr h21;refine gx tv19 11 ?_;refine loop (ι:=Nat) [0,1,2,5,8,9,10,11,12,14,15,16,17,18,19,20,21,22,23,24,25,26,27,28,29,30,31,32,33,34,35,36,37,38,39,40,41,42,43,44,45,46,47,48,49,50,51,52,53,54,55,56,57,58] [0] (fun k=>[(59, .int .i64 (k:Int))]) (fun k=>[]) (fun k=>k<=ahead.length/\Ia_ ahead p.key=Ia_ (ahead.drop k) p.key) (fun k=>ahead.length-k) 0 ⟨rfl,trivial⟩ trivial ?_ ?_
  · exact⟨Nat.zero_le _,rfl⟩
  rintro k hp24;obtain⟨hk1,hk2⟩:=hp24;refine gx tv19 6 ?_;refine cnd rfl (fun h25=>?_) (fun h25=>?_)
  · have p26:=dt h25;obtain⟨c27,hc28⟩:=getE (xs:=ahead) (m:=k) (by omega);have c27_w:=Pair.pwf (w.2.1.2 c27 (List.mem_of_getElem? hc28));refine gx tv19 6 ?_;refine q1 (qidx tv19 k rfl rfl rfl hc28 rfl rfl rfl rfl) rfl fun w29=>?_;refine gm tv19 14 [1] fun B31=>?_;refine cnd rfl (fun h32=>?_) (fun h32=>?_)
    · have p33:=dt h32;refine gx tv19 11 ?_;refine rt1 rfl rfl (ple ?_);have e9:=findP_hit hk2 (C3_ hc28) (by assumption)
      clear hk2
      refine congrArg (PV.int .i64) ?_
      rw[Gd_]
      simp only[bl1] at *
      first|(simp[*];done)|(simp[*];omega)|((repeat' split)<;>first|rfl|omega|(exfalso;simp_all;done)|(exfalso;simp_all;omega)|grind)
    have p34:=df h32;refine gy tv19 7 ?_;refine next (k+1) rfl rfl ⟨rfl,trivial⟩ trivial ?_ ?_
    · omega
    exact⟨by omega,findP_miss hk2 (C3_ hc28) (by assumption)⟩
  have p35:=df h25;refine gx tv19 11 ?_;refine rt1 rfl rfl (ple ?_);have e9:Ia_ ahead p.key=none:=by rw[hk2,List.drop_of_length_le (by omega)];rfl
  clear hk2
  refine congrArg (PV.int .i64) ?_
  rw[Gd_]
  simp only[bl1] at *
  first|(simp[*];done)|(simp[*];omega)|((repeat' split)<;>first|rfl|omega|(exfalso;simp_all;done)|(exfalso;simp_all;omega)|grind)
theorem Ux_ (h:List Pair):Fn Tryz.prog gb 68 [.sl Pair.pc h] (.int .i64 (Df_ h)):=by
  refine fC Tryz.func68 tv19 Tryz.ntmps68 fun w N H hG=>?_;refine gx tv19 13 ?_;refine cn rfl (fun p2=>?_) fun p3=>?_
  · refine gx tv19 7 ?_;refine rt1 rfl rfl (ple ?_)
    simp[Df_, *]
  refine gx tv19 11 ?_;refine loop (ι:=Nat) [0,6,7,8,9,10] [] (fun k=>[(11, .int .i64 (k:Int))]) (fun k=>[]) (fun k=>k<=h.length/\Gh_ [] h=Gh_ (h.take k) (h.drop k)) (fun k=>h.length-k) 0 ⟨rfl,trivial⟩ trivial ?_ ?_
  · exact⟨Nat.zero_le _,rfl⟩
  rintro k hp4;obtain⟨hk1,hk2⟩:=hp4;refine gx tv19 6 ?_;refine cn rfl (fun p6=>?_) fun p19=>?_
  · obtain⟨c7,hc8⟩:=getE (xs:=h) (m:=k) (by omega);have c7_w:=Pair.pwf (w.1.2 c7 (List.mem_of_getElem? hc8));refine gx tv19 7 ?_;refine q1 (qidx tv19 k rfl rfl rfl hc8 rfl rfl rfl rfl) rfl fun w9=>?_;refine gm tv19 7 [0] fun B11=>?_;refine aN [1,2,3,4,5,6] 6 mixd ?_;refine gX tv19 [0,1,2] 3 ?_;refine vq 3 (lshi tv19 k rfl rfl rfl rfl rfl (fun _=>rfl) rfl (by omega)) rfl (by kernel_rfl) rfl fun w12=>?_;refine vC 4 rfl (Jq_ _ _) rfl fun w13=>?_;have :=E1_ c7 (h.take k);refine gX tv19 [5] 0 ?_;refine vD ?_;refine gx tv19 7 ?_;refine cnd rfl (fun h14=>?_) (fun h14=>?_)
    · have h15:=Br_ h14;have p16:=df h15;refine gx tv19 12 ?_;refine rt1 rfl rfl (ple ?_)
      unfold Df_
      rw[if_neg (by omega),hk2,C3_ hc8]
      simp only[Gh_]
      rw[if_pos (by omega)]
    have h17:=Bf_ h14;have p18:=dt h17;refine gy tv19 7 ?_;refine next (k+1) rfl rfl ⟨rfl,trivial⟩ trivial ?_ ?_
    · omega
    refine⟨by omega,?_⟩
    rw[hk2,C3_ hc8,takeE hc8]
    simp only[Gh_]
    rw[if_neg (by omega)]
  refine gx tv19 11 ?_;refine rt1 rfl rfl (ple ?_)
  unfold Df_
  rw[if_neg (by omega),hk2,List.drop_of_length_le (by omega)]
  rfl
theorem Ts_ (a:List Pair) (b:List Pair):Fn Tryz.prog gb 164 [.sl Pair.pc a, .sl Pair.pc b] (.bool (decide (a=b))):=by
  refine fC Tryz.func164 tv19 Tryz.ntmps164 fun w N H hG=>?_;have a_l:a.length<=140737488355328:=w.1.1;have b_l:b.length<=140737488355328:=w.2.1.1;refine gx tv19 15 ?_;refine cnd rfl (fun h1=>?_) (fun h1=>?_)
  · have h2:=Br_ h1;have p3:=df h2;refine gx tv19 7 ?_;refine rt1 rfl rfl (ple ?_);exact congrArg PV.bool (Yd_ (by assumption)).symm
  have h4:=Bf_ h1;have p5:=dt h4;refine gx tv19 11 ?_;refine loop (ι:=Nat) [0,1,6,7,8,9,10,11,12] [] (fun k=>[(13, .int .i64 (k:Int))]) (fun k=>[]) (fun k=>k<=a.length /\ decide (a=b) = decide (a.drop k=b.drop k)) (fun k=>a.length-k) 0 ⟨rfl,trivial⟩ trivial ?_ ?_
  · exact⟨Nat.zero_le _,rfl⟩
  rintro k hp6;obtain⟨hk1,hk2⟩:=hp6;refine gx tv19 6 ?_;refine cnd rfl (fun h7=>?_) (fun h7=>?_)
  · have p8:=dt h7;refine gx tv19 11 ?_;refine aN [0,1,2,3,4,5] 9 mixd ?_;refine gX tv19 [0,1] 7 ?_;obtain⟨c9,hc10⟩:=getE (xs:=a) (m:=k) (by omega);have c9_w:=Pair.pwf (w.1.2 c9 (List.mem_of_getElem? hc10));refine vq 2 (qidx tv19 k rfl rfl rfl hc10 rfl rfl rfl rfl) rfl (by kernel_rfl) rfl fun w11=>?_;refine gX tv19 [3,4,5] 3 ?_;obtain⟨c12,hc13⟩:=getE (xs:=b) (m:=k) (by omega);have c12_w:=Pair.pwf (w.2.1.2 c12 (List.mem_of_getElem? hc13));refine vq 6 (qidx tv19 k rfl rfl rfl hc13 rfl rfl rfl rfl) rfl (by kernel_rfl) rfl fun w14=>?_;refine gX tv19 [7] 1 ?_;refine vq 8 (sane rfl rfl eqg199 (veq199 c9 c12)) rfl (by kernel_rfl) rfl fun w15=>?_;refine vD ?_;refine gx tv19 1 ?_;refine cnd rfl (fun h16=>?_) (fun h16=>?_)
    · have h17:=Br_ h16;have p18:=df h17;refine gx tv19 11 ?_;refine rt1 rfl rfl (ple ?_);exact congrArg PV.bool (T4_ hk2 (C3_ hc10) (C3_ hc13) (by assumption)).symm
    have h19:=Bf_ h16;have p20:=dt h19;refine gy tv19 7 ?_;refine next (k+1) rfl rfl ⟨rfl,trivial⟩ trivial ?_ ?_
    · omega
    exact⟨by omega,Tw_ hk2 (C3_ hc10) (C3_ hc13) (by assumption)⟩
  have p21:=df h7;refine gx tv19 11 ?_;refine rt1 rfl rfl (ple ?_);exact congrArg PV.bool (Zl_ hk2 (by omega) (by omega)).symm
abbrev ty167:TI:=⟨.agg [(0,1),(1,1),(2,1),(3,1),(4,1),(5,1),(6,7)],13,144,[.int .u8 0, .int .u8 0, .int .u64 0, .int .u64 0, .bool false, .str [], .int .u64 0, .str [], .str [], .sl Pair.pc [], .str [], .int .u64 0, .int .u8 0]⟩
abbrev ty182:TI:=⟨.agg [(0,1),(1,1),(2,1),(3,1),(4,1),(5,1)],6,88,[.str [], .str [], .bool false, .str [], .sl Pair.pc [], .bool false]⟩
abbrev Y3_:TI:=⟨.agg [(0,1),(1,1),(2,3),(5,4),(9,6),(15,1),(16,1),(17,1),(18,1),(19,1),(20,1),(21,7),(28,1)],29,344,[.int .u8 0, .int .u64 0, .str [], .int .u8 0, .str [], .str [], .int .u64 0, .int .u64 0, .str [], .str [], .str [], .bool false, .str [], .sl Pair.pc [], .bool false, .str [], .int .u64 0, .int .u8 0, .int .u8 0, .int .u8 0, .int .u64 0, .int .u64 0, .str [], .str [], .sl Pair.pc [], .str [], .int .u64 0, .int .u8 0, .str []]⟩
def tbv20:Tb:=[(5,ty5),(9,ty9),(27,ty27),(44,ty44),(46,ty46),(47,ty47),(49,ty49),(51,ty51),(53,ty53),(137,Uw_),(167,ty167),(182,ty182),(184,Y3_),(199,Wr_)]
theorem tv20:tbB Tryz.prog tbv20=true:=by kernel_rfl
theorem Rh_ (h:List Pair):Fn Tryz.prog gb 65 [.sl Pair.pc h] (.bool (F7_ h)):=by
  refine fC Tryz.func65 tv20 Tryz.ntmps65 fun w N H hG=>?_;refine gx tv20 13 ?_;refine cn rfl (fun p2=>?_) fun p3=>?_
  · refine gx tv20 7 ?_;refine rt1 rfl rfl (ple ?_);exact congrArg PV.bool (by simp[F7_];omega)
  refine gx tv20 11 ?_;refine loop (ι:=Nat) [0,5,6,7,8,9] [] (fun k=>[(10, .int .i64 (k:Int))]) (fun k=>[]) (fun k=>k<=h.length/\h.all Qb_=(h.drop k).all Qb_) (fun k=>h.length-k) 0 ⟨rfl,trivial⟩ trivial ?_ ?_
  · exact⟨Nat.zero_le _,rfl⟩
  rintro k hp4;obtain⟨hk1,hk2⟩:=hp4;refine gx tv20 6 ?_;refine cn rfl (fun p6=>?_) fun p17=>?_
  · obtain⟨c7,hc8⟩:=getE (xs:=h) (m:=k) (by omega);have c7_w:=Pair.pwf (w.1.2 c7 (List.mem_of_getElem? hc8));refine gx tv20 6 ?_;refine q1 (qidx tv20 k rfl rfl rfl hc8 rfl rfl rfl rfl) rfl fun w9=>?_;refine gmy tv20 19 [0] fun B11=>?_;refine cnd rfl (fun h12=>?_) (fun h12=>?_)
    · refine gx tv20 11 ?_;refine rt1 rfl rfl (ple ?_);exact congrArg PV.bool (by unfold F7_;rw[all_miss hk2 (C3_ hc8) (by simp[Qb_];first|omega|grind)];simp)
    have h13:=orl h12;have p14:=df h13;have h15:=orr h12;have p16:=df h15;refine gy tv20 7 ?_;refine next (k+1) rfl rfl ⟨rfl,trivial⟩ trivial ?_ ?_
    · omega
    exact⟨by omega,all_step hk2 (C3_ hc8) (by simp[Qb_];omega)⟩
  refine gx tv20 11 ?_;refine rt1 rfl rfl (ple ?_);exact congrArg PV.bool (by unfold F7_;rw[all_end hk2 (by omega)];simp;omega)
theorem l12_To (r:Reply) (hl:r.mail.head.length<=1000000):Fn Tryz.prog gb 126 [.agg (Reply.pc r)] (.agg (Reply.pc r)):=by
  refine fC Tryz.func126 tv20 Tryz.ntmps126 fun w N H hG=>?_;refine gm tv20 15 [0,1,2] fun B2=>?_;refine ef (bsl 3 Pair.pc [] tv20 rfl rfl rfl rfl rfl (fun _=>rfl) rfl (by decide) (by decide) rfl fun u5=>?_);refine gx tv20 3 ?_;refine ef (app tv20 r.mail.head rfl rfl rfl rfl rfl rfl rfl rfl rfl (src_l rfl (fun _=>rfl)) (by first|omega|(simp;omega)) rfl fun u6=>?_);refine gx tv20 2 ?_;refine give 3 rfl ?_;refine ef (sO tv20 ?_);refine gm tv20 9 [] fun _=>?_;refine rt1 rfl rfl (ple ?_)
  rfl
theorem Xc_ (m:Mail):Fn Tryz.prog gb 78 [.agg (Mail.pc m)] (.bool (Hj_ m)):=by
  refine fC Tryz.func78 tv20 Tryz.ntmps78 fun w N H hG=>?_;have m_w:=Mail.pwf w.1;have m_w':=m_w
  simp only[Mail.wf] at m_w'
  have m_head_k:=Mail.kd3 w.1;have m_head_k2:m.head.length<=140737488355328:=w.1.2.2.2.1.1;refine gmy tv20 21 [0] fun B2=>?_;refine callg rfl (fun hc=>(Rh_ _)) rfl ⟨(fun hc=>hc),trivial⟩ rfl rfl fun _=>?_;refine gy tv20 11 ?_;refine rt1 rfl rfl (ple ?_);refine congrArg PV.bool ?_
  unfold Hj_
  first|(simp only[*,Bool.and_true,Bool.true_and,Bool.false_and,Bool.and_false,decide_true,decide_false];done)|(rw[Bool.eq_iff_iff];simp[and_assoc];done)|(rw[Bool.eq_iff_iff];simp;grind)
theorem l22_Light (d:DeedR):Fn Tryz.prog gb 88 [.agg (DeedR.pc d)] (.bool (Cq_ d)):=by
  refine fC Tryz.func88 tv20 Tryz.ntmps88 fun w N H hG=>?_;have d_w:=DeedR.pwf w.1;have d_w':=d_w
  simp only[DeedR.wf,ShopR.wf,Aa_.wf,BindR.wf,Mail.wf] at d_w'
  have d_bind_want_k:=DeedR.kd13 w.1;have d_bind_want_k2:d.bind.want.length<=140737488355328:=w.1.2.2.2.2.2.2.2.2.2.2.2.2.2.1.1;have d_mail_head_k:=DeedR.kd24 w.1;have d_mail_head_k2:d.mail.head.length<=140737488355328:=w.1.2.2.2.2.2.2.2.2.2.2.2.2.2.2.2.2.2.2.2.2.2.2.2.2.1.1;refine gm tv20 35 [0] fun B2=>?_;refine q1 (qmaxN (z:=(d.shop.name.length:Int)) (r:=(max (max (max (max (max (max (d.shop.name.length:Int) (d.shop.to.length:Int)) (d.queue.name.length:Int)) (d.queue.dead.length:Int)) (d.bind.shop.length:Int)) (d.bind.to.length:Int)) (d.name.length:Int))) [(d.shop.to.length:Int),(d.queue.name.length:Int),(d.queue.dead.length:Int),(d.bind.shop.length:Int),(d.bind.to.length:Int),(d.name.length:Int)] rfl rfl (Q3_ (by omega))) rfl fun w3=>?_;refine gy tv20 22 ?_;refine callg rfl (fun hc=>(Rh_ _)) rfl ⟨(fun hc=>hc),trivial⟩ rfl rfl fun _=>?_;refine gy tv20 4 ?_;refine callg rfl (fun hc=>(Xc_ _)) rfl ⟨(fun hc=>hc),trivial⟩ rfl rfl fun _=>?_;refine gy tv20 5 ?_;refine rt1 rfl rfl (ple ?_);refine congrArg PV.bool ?_
  unfold Cq_
  first|(simp only[*,Bool.and_true,Bool.true_and,Bool.false_and,Bool.and_false,decide_true,decide_false];done)|(rw[Bool.eq_iff_iff];simp[and_assoc];done)|(rw[Bool.eq_iff_iff];simp;grind)
theorem l14_To (x:BindR) (hl:x.want.length<=1000000:=by first|omega|(have :=N0_ d (by assumption);omega)):Fn Tryz.prog gb 130 [.agg (BindR.pc x)] (.agg (BindR.pc x)):=by
  refine fC Tryz.func130 tv20 Tryz.ntmps130 fun w N H hG=>?_;refine gm tv20 15 [0,1,2] fun B2=>?_;refine ef (bsl 3 Pair.pc [] tv20 rfl rfl rfl rfl rfl (fun _=>rfl) rfl (by decide) (by decide) rfl fun u5=>?_);refine gx tv20 2 ?_;refine ef (app tv20 x.want rfl rfl rfl rfl rfl rfl rfl rfl rfl (src_l rfl (fun _=>rfl)) (by first|omega|(simp;omega)) rfl fun u6=>?_);refine gx tv20 1 ?_;refine give 3 rfl ?_;refine ef (sO tv20 ?_);refine gm tv20 9 [] fun _=>?_;refine rt1 rfl rfl (ple ?_)
  rfl
theorem l22_To (d:DeedR) (hl:d.bind.want.length<=1000000):Fn Tryz.prog gb 89 [.agg (DeedR.pc d)] (.agg (DeedR.pc d)):=by
  refine fC Tryz.func89 tv20 Tryz.ntmps89 fun w N H hG=>?_;refine gm tv20 7 [0,1] fun B2=>?_;refine aN [1,2,3,4,5,6,7] 29 mixd ?_;refine gX tv20 [0,1,2,3,4,5,6,7,8,9,11,12,13,14,15,16,17,18,19,20,21,22,23,24,25,26] 3 ?_;refine vE 10 rfl (eC (l14_To _) rfl fun w4=>?_);refine gX tv20 [27] 1 ?_;refine vT 28 rfl (sA tv20 ?_);refine vD ?_;refine gx tv20 2 ?_;refine rt1 rfl rfl (ple ?_)
  rfl
theorem eqg180:Tryz.prog.eqGuardType Tryz.prog.depth 180=false:=by kernel_rfl
theorem eqg181:Tryz.prog.eqGuardType Tryz.prog.depth 181=false:=by kernel_rfl
theorem veq180 (p q:ShopR):∀ (H:Hp) (vs us:List Value),Sims H (ShopR.pc p) vs->Sims H (ShopR.pc q) us->EqV Tryz.prog 10000 180 (.agg vs.toArray) (.agg us.toArray) (decide (p=q)):=by
  intro H vs us hv hu;obtain⟨_,_,rfl,v0,v_0⟩:=hv.inv_cons;obtain⟨_,_,rfl,v1,v_1⟩:=v_0.inv_cons;obtain⟨_,_,rfl,v2,v_2⟩:=v_1.inv_cons
  cases v_2.inv_nil
  cases v0.inv_str.1;cases v1.inv_int.1;cases v2.inv_str.1
  obtain⟨_,_,rfl,u0,u_0⟩:=hu.inv_cons;obtain⟨_,_,rfl,u1,u_1⟩:=u_0.inv_cons;obtain⟨_,_,rfl,u2,u_2⟩:=u_1.inv_cons
  cases u_2.inv_nil
  cases u0.inv_str.1;cases u1.inv_int.1;cases u2.inv_str.1
  exact EqV.to (L9_ Tryz.underlying180 (by kernel_rfl) (If_ (by decide) ag9 rfl rfl (Hm_ Tryz.underlying9) (If_ (by decide) ag5 rfl rfl (H5_ Tryz.underlying5) (If_ (by decide) ag9 rfl rfl (Hm_ Tryz.underlying9) Ls_)))) (by obtain⟨a0,a1,a2⟩:=p;obtain⟨b0,b1,b2⟩:=q;rw[Bool.eq_iff_iff];simp)
theorem veq181 (p q:Aa_):∀ (H:Hp) (vs us:List Value),Sims H (Aa_.pc p) vs->Sims H (Aa_.pc q) us->EqV Tryz.prog 10000 181 (.agg vs.toArray) (.agg us.toArray) (decide (p=q)):=by
  intro H vs us hv hu;obtain⟨_,_,rfl,v0,v_0⟩:=hv.inv_cons;obtain⟨_,_,rfl,v1,v_1⟩:=v_0.inv_cons;obtain⟨_,_,rfl,v2,v_2⟩:=v_1.inv_cons;obtain⟨_,_,rfl,v3,v_3⟩:=v_2.inv_cons
  cases v_3.inv_nil
  cases v0.inv_str.1;cases v1.inv_int.1;cases v2.inv_int.1;cases v3.inv_str.1
  obtain⟨_,_,rfl,u0,u_0⟩:=hu.inv_cons;obtain⟨_,_,rfl,u1,u_1⟩:=u_0.inv_cons;obtain⟨_,_,rfl,u2,u_2⟩:=u_1.inv_cons;obtain⟨_,_,rfl,u3,u_3⟩:=u_2.inv_cons
  cases u_3.inv_nil
  cases u0.inv_str.1;cases u1.inv_int.1;cases u2.inv_int.1;cases u3.inv_str.1
  exact EqV.to (L9_ Tryz.underlying181 (by kernel_rfl) (If_ (by decide) ag9 rfl rfl (Hm_ Tryz.underlying9) (If_ (by decide) ag27 rfl rfl (H5_ Tryz.underlying27) (If_ (by decide) ag27 rfl rfl (H5_ Tryz.underlying27) (If_ (by decide) ag9 rfl rfl (Hm_ Tryz.underlying9) Ls_))))) (by obtain⟨a0,a1,a2,a3⟩:=p;obtain⟨b0,b1,b2,b3⟩:=q;rw[Bool.eq_iff_iff];simp)
abbrev ty180:TI:=⟨.agg [(0,1),(1,1),(2,1)],3,40,[.str [], .int .u8 0, .str []]⟩
abbrev ty181:TI:=⟨.agg [(0,1),(1,1),(2,1),(3,1)],4,48,[.str [], .int .u64 0, .int .u64 0, .str []]⟩
def tbv21:Tb:=[(4,ty4),(5,ty5),(9,ty9),(27,ty27),(47,ty47),(51,ty51),(180,ty180),(181,ty181),(182,ty182),(184,Y3_)]
theorem tv21:tbB Tryz.prog tbv21=true:=by kernel_rfl
theorem r13_Same (a:Mail) (b:Mail):Fn Tryz.prog gb 132 [.agg (Mail.pc a), .agg (Mail.pc b)] (.bool (decide (a=b))):=by
  refine fC Tryz.func132 tv21 Tryz.ntmps132 fun w N H hG=>?_;refine gmy tv21 33 [0,1] fun B2=>?_;refine callg rfl (fun hc=>(Ts_ _ _)) rfl ⟨(fun hc=>hc),(fun hc=>hc),trivial⟩ rfl rfl fun _=>?_;refine gy tv21 26 ?_;refine rt1 rfl rfl (ple ?_);exact congrArg PV.bool (by rw[Bool.eq_iff_iff];first|(simp[Mail.eq_iff,and_assoc];done)|(simp[Mail.eq_iff];grind))
theorem Og_ (a:BindR) (b:BindR):Fn Tryz.prog gb 131 [.agg (BindR.pc a), .agg (BindR.pc b)] (.bool (decide (a=b))):=by
  refine fC Tryz.func131 tv21 Tryz.ntmps131 fun w N H hG=>?_;refine gmy tv21 47 [0,1] fun B2=>?_;refine callg rfl (fun hc=>(Ts_ _ _)) rfl ⟨(fun hc=>hc),(fun hc=>hc),trivial⟩ rfl rfl fun _=>?_;refine gy tv21 5 ?_;refine rt1 rfl rfl (ple ?_);exact congrArg PV.bool (by rw[Bool.eq_iff_iff];first|(simp[BindR.eq_iff,and_assoc];done)|(simp[BindR.eq_iff];grind))
theorem r22_Same (a:DeedR) (b:DeedR):Fn Tryz.prog gb 90 [.agg (DeedR.pc a), .agg (DeedR.pc b)] (.bool (decide (a=b))):=by
  refine fC Tryz.func90 tv21 Tryz.ntmps90 fun w N H hG=>?_;refine gmy tv21 27 [0,1] fun B2=>?_;refine q1g [19,21] rfl (fun hc=>sane rfl rfl eqg180 (veq180 a.shop b.shop)) ⟨(fun hc=>hc),(fun hc=>hc),trivial⟩ rfl rfl rfl fun _=>?_;refine gy tv21 6 ?_;refine q1g [26,28] rfl (fun hc=>sane rfl rfl eqg181 (veq181 a.queue b.queue)) ⟨(fun hc=>hc),(fun hc=>hc),trivial⟩ rfl rfl rfl fun _=>?_;refine gy tv21 17 ?_;refine cnd rfl (fun h4=>?_) (fun h4=>?_)
  · refine gx tv21 7 ?_;refine rt1 rfl rfl (ple ?_);exact congrArg PV.bool (by rw[Bool.eq_iff_iff];first|(simp[DeedR.eq_iff,and_assoc];done)|(simp[DeedR.eq_iff];grind))
  have h5:=orl h4;have h6:=orl h5;have h7:=orl h6;have h8:=orl h7;have h9:=orl h8;have h10:=Bf_ h9;have p11:=dt h10;have h12:=orr h8;have h13:=Bf_ h12;have p14:=dt h13;have h15:=orr h7;have h16:=Bf_ h15;have p17:=dt h16;have h18:=orr h6;have h19:=Bf_ h18;have p20:=dt h19;have h21:=orr h5;have h22:=Bf_ h21;have p23:=dt h22;have h24:=orr h4;have h25:=Bf_ h24;have p26:=dt h25;refine gy tv21 40 ?_;refine cnd rfl (fun h27=>?_) (fun h27=>?_)
  · refine gx tv21 7 ?_;refine rt1 rfl rfl (ple ?_);exact congrArg PV.bool (by rw[Bool.eq_iff_iff];first|(simp[DeedR.eq_iff,and_assoc];done)|(simp[DeedR.eq_iff];grind))
  have h28:=orl h27;have h29:=orl h28;have h30:=orl h29;have h31:=orl h30;have h32:=Bf_ h31;have p33:=dt h32;have h34:=orr h30;have h35:=Bf_ h34;have p36:=dt h35;have h37:=orr h29;have h38:=Bf_ h37;have p39:=dt h38;have h40:=orr h28;have h41:=Bf_ h40;have p42:=dt h41;have h43:=orr h27;have h44:=Bf_ h43;have p45:=dt h44;refine gx tv21 8 ?_;refine call (Og_ _ _) rfl rfl fun w46=>?_;refine gy tv21 5 ?_;refine callg rfl (fun hc=>(r13_Same _ _)) rfl ⟨(fun hc=>hc),(fun hc=>hc),trivial⟩ rfl rfl fun _=>?_;refine gy tv21 5 ?_;refine rt1 rfl rfl (ple ?_);exact congrArg PV.bool (by rw[Bool.eq_iff_iff];first|(simp[DeedR.eq_iff,and_assoc];done)|(simp[DeedR.eq_iff];grind))
theorem Ew_ (k:Int):Fn Tryz.prog gb 181 [.int .u8 k] (.bool (decide (k=1\/k=3\/k=7\/k=8))):=by
  refine fC Tryz.func181 tv21 Tryz.ntmps181 fun w N H hG=>?_;refine gy tv21 25 ?_;refine rt1 rfl rfl (ple ?_);refine congrArg PV.bool ?_
  first|(rw[Bool.eq_iff_iff];simp only[decide_eq_true_eq,Bool.false_eq_true,false_iff,true_iff];omega)|(rw[Bool.eq_iff_iff];simp[or_assoc];done)|(rw[Bool.eq_iff_iff];simp;omega)|(rw[Bool.eq_iff_iff];simp;grind)
theorem Vh_ (s:Bs):Fn Tryz.prog gb 178 [.str s] (.int .i64 (Ih_ s)):=by
  refine fC Tryz.func178 tv21 Tryz.ntmps178 fun w N H hG=>?_;refine gx tv21 12 ?_;refine cn rfl (fun p2=>?_) fun p3=>?_
  · refine gx tv21 7 ?_;refine rt1 rfl rfl (ple ?_)
    simp[Ih_, *]
  refine gx tv21 5 ?_;refine call (H7_ _) rfl rfl fun w4=>?_;refine gx tv21 4 ?_;refine rt1 rfl rfl (ple ?_)
  simp[Ih_, *]
theorem r22_spare (d:DeedR):Fn Tryz.prog gb 177 [.agg (DeedR.pc d)] (.bool (!decide (d=E8_ d))):=by
  refine fC Tryz.func177 tv21 Tryz.ntmps177 fun w N H hG=>?_;refine gmy tv21 22 [0] fun B2=>?_;refine q1g [10,11] rfl (fun hc=>sane rfl rfl eqg180 (veq180 d.shop (⟨[],0,[]⟩:ShopR))) ⟨(fun hc=>hc),(fun hc=>hc),trivial⟩ rfl rfl rfl fun _=>?_;refine gy tv21 8 ?_;refine q1g [19,20] rfl (fun hc=>sane rfl rfl eqg181 (veq181 d.queue (⟨[],0,0,[]⟩:Aa_))) ⟨(fun hc=>hc),(fun hc=>hc),trivial⟩ rfl rfl rfl fun _=>?_;refine gy tv21 4 ?_;refine cnd rfl (fun h3=>?_) (fun h3=>?_)
  · refine gx tv21 7 ?_;refine rt1 rfl rfl (ple ?_);refine congrArg PV.bool (Tj_ fun hh=>?_);obtain⟨t1,t2,t3,t4,t5,t6,t7,t8,t9,t10,t11⟩:=Js_.1 hh
    clear hh
    simp only[Bool.or_eq_true,Bool.and_eq_true,Bool.not_eq_true',decide_eq_true_eq,decide_eq_false_iff_not] at *
    grind
  have h4:=orl h3;have h5:=orr h3;refine gy tv21 15 ?_;refine callg rfl (fun hc=>(Og_ _ (⟨[],[],false,[],[],false⟩:BindR))) rfl ⟨(fun hc=>hc),(fun hc=>hc),trivial⟩ rfl rfl fun _=>?_;refine gy tv21 4 ?_;refine cnd rfl (fun h6=>?_) (fun h6=>?_)
  · have h7:=bl h6;have h8:=bl h7;have h9:=Br_ h8;have p10:=df h9;have h11:=br h7;have h12:=Br_ h11;have p13:=df h12;have h14:=br h6;have h15:=Br_ h14;have p16:=df h15;refine gx tv21 7 ?_;refine rt1 rfl rfl (ple ?_);refine congrArg PV.bool (Tj_ fun hh=>?_);obtain⟨t1,t2,t3,t4,t5,t6,t7,t8,t9,t10,t11⟩:=Js_.1 hh
    clear hh
    simp only[Bool.or_eq_true,Bool.and_eq_true,Bool.not_eq_true',decide_eq_true_eq,decide_eq_false_iff_not] at *
    grind
  refine gx tv21 6 ?_;refine call (Ew_ _) rfl rfl fun w17=>?_;refine gy tv21 22 ?_;refine cnd rfl (fun h18=>?_) (fun h18=>?_)
  · refine gx tv21 7 ?_;refine rt1 rfl rfl (ple ?_);refine congrArg PV.bool (Tj_ fun hh=>?_);obtain⟨t1,t2,t3,t4,t5,t6,t7,t8,t9,t10,t11⟩:=Js_.1 hh
    clear hh
    simp only[Bool.or_eq_true,Bool.and_eq_true,Bool.not_eq_true',decide_eq_true_eq,decide_eq_false_iff_not] at *
    grind
  have h19:=orl h18;have h20:=orr h18;refine gy tv21 33 ?_;refine cnd rfl (fun h21=>?_) (fun h21=>?_)
  · refine gx tv21 7 ?_;refine rt1 rfl rfl (ple ?_);refine congrArg PV.bool (Tj_ fun hh=>?_);obtain⟨t1,t2,t3,t4,t5,t6,t7,t8,t9,t10,t11⟩:=Js_.1 hh
    clear hh
    simp only[Bool.or_eq_true,Bool.and_eq_true,Bool.not_eq_true',decide_eq_true_eq,decide_eq_false_iff_not] at *
    grind
  have h22:=orl h21;have h23:=orr h21;refine gy tv21 14 ?_;refine callg rfl (fun hc=>(r13_Same _ (⟨0,[],[],[],[],0,0⟩:Mail))) rfl ⟨(fun hc=>hc),(fun hc=>hc),trivial⟩ rfl rfl fun _=>?_;refine gy tv21 6 ?_;refine rt1 rfl rfl (ple ?_);refine congrArg PV.bool ?_
  rw[Bool.eq_iff_iff]
  simp only[Bool.or_eq_false_iff,Bool.and_eq_false_iff,Bool.not_eq_false',Bool.not_eq_true',Bool.and_eq_true,decide_eq_true_eq,decide_eq_false_iff_not] at *
  constructor
  · intro hm hh;obtain⟨_,_,_,_,_,_,_,_,_,_,t11⟩:=Js_.1 hh;exact hm.2 (t11 hm.1.1 hm.1.2)
  intro hn;refine Classical.byContradiction fun q=>hn (Js_.2 ⟨?_,?_,?_,?_,?_,?_,?_,?_,?_,?_,?_⟩)<;>clear hn<;>grind
theorem Mh_ (b:BindR):Fn Tryz.prog gb 179 [.agg (BindR.pc b)] (.int .i64 (Bz_ [Cr_ b.shop,Cr_ b.to,Bq_ (decide ((64:Int)<b.key.length)) 5,Df_ b.want])):=by
  refine fC Tryz.func179 tv21 Tryz.ntmps179 fun w N H hG=>?_;refine gm tv21 10 [0] fun B2=>?_;refine call (H7_ _) rfl rfl fun w3=>?_;refine gx tv21 10 ?_;refine cnd rfl (fun h4=>?_) (fun h4=>?_)
  · have p5:=dt h4;refine gx tv21 3 ?_;refine call (H7_ _) rfl rfl fun w6=>?_;refine gy tv21 16 ?_;refine cnd rfl (fun h7=>?_) (fun h7=>?_)
    · have h8:=bl h7;have p9:=dt h8;have h10:=br h7;have p11:=dt h10;refine gx tv21 11 ?_;refine cndF rfl (by decide) ?_;refine gx tv21 9 ?_;refine rt1 rfl rfl (ple ?_);refine congrArg (PV.int .i64) ?_
      (try simp only[bl1] at *)
      simp only[Bz_,Bq_,decide_eq_true_eq]
      (repeat' split)<;>first|rfl|omega|grind
    refine gx tv21 9 ?_;refine cn rfl (fun p13=>?_) fun p15=>?_
    · refine gx tv21 3 ?_;refine call (Ux_ _) rfl rfl fun w14=>?_;refine gx tv21 10 ?_;refine rt1 rfl rfl (ple ?_);refine congrArg (PV.int .i64) ?_
      (try simp only[bl1] at *)
      simp only[Bz_,Bq_,decide_eq_true_eq]
      (repeat' split)<;>first|rfl|omega|grind
    refine gx tv21 9 ?_;refine rt1 rfl rfl (ple ?_);refine congrArg (PV.int .i64) ?_
    (try simp only[bl1] at *)
    simp only[Bz_,Bq_,decide_eq_true_eq]
    (repeat' split)<;>first|rfl|omega|grind
  have p16:=df h4;refine gy tv21 15 ?_;refine cnd rfl (fun h17=>?_) (fun h17=>?_)
  · have h18:=bl h17;have p19:=dt h18;have h20:=br h17;have p21:=dt h20;refine gx tv21 11 ?_;refine cndF rfl (by decide) ?_;refine gx tv21 9 ?_;refine rt1 rfl rfl (ple ?_);refine congrArg (PV.int .i64) ?_
    (try simp only[bl1] at *)
    simp only[Bz_,Bq_,decide_eq_true_eq]
    (repeat' split)<;>first|rfl|omega|grind
  refine gx tv21 9 ?_;refine cndF rfl h4 ?_;refine gx tv21 9 ?_;refine rt1 rfl rfl (ple ?_);refine congrArg (PV.int .i64) ?_
  (try simp only[bl1] at *)
  simp only[Bz_,Bq_,decide_eq_true_eq]
  (repeat' split)<;>first|rfl|omega|grind
theorem Xu_ (m:Mail):Fn Tryz.prog gb 180 [.agg (Mail.pc m)] (.int .i64 (Gk_ m)):=by
  refine fC Tryz.func180 tv21 Tryz.ntmps180 fun w N H hG=>?_;refine gm tv21 10 [0] fun B2=>?_;refine call (H7_ _) rfl rfl fun w3=>?_;refine gx tv21 10 ?_;refine cnd rfl (fun h4=>?_) (fun h4=>?_)
  · have p5:=dt h4;refine gx tv21 3 ?_;refine call (r4_Key _ _) rfl rfl fun w6=>?_;refine gx tv21 10 ?_;refine cnd rfl (fun h7=>?_) (fun h7=>?_)
    · have p8:=dt h7;refine gx tv21 3 ?_;refine call (Ux_ _) rfl rfl fun w9=>?_;refine gy tv21 16 ?_;refine cnd rfl (fun h10=>?_) (fun h10=>?_)
      · have h11:=bl h10;have p12:=dt h11;have h13:=br h10;have p14:=dt h13;refine gy tv21 16 ?_;refine cnd rfl (fun h15=>?_) (fun h15=>?_)
        · have h16:=bl h15;have p17:=dt h16;have h18:=br h15;have p19:=dt h18;refine gx tv21 11 ?_;refine rt1 rfl rfl (ple ?_);have hbo:Cg_ false=[]:=rfl
          simp only[hbo] at *
          refine congrArg (PV.int .i64) ?_
          simp only[bl1] at *
          unfold Gk_
          (repeat' split)<;>first|rfl|(exfalso;omega)|(exfalso;simp_all;done)|(exfalso;simp_all;omega)|grind
        refine gx tv21 9 ?_;refine rt1 rfl rfl (ple ?_);have hbo:Cg_ false=[]:=rfl
        simp only[hbo] at *
        refine congrArg (PV.int .i64) ?_
        simp only[bl1] at *
        unfold Gk_
        (repeat' split)<;>first|rfl|(exfalso;omega)|(exfalso;simp_all;done)|(exfalso;simp_all;omega)|grind
      refine gy tv21 14 ?_;refine cnd rfl (fun h20=>?_) (fun h20=>?_)
      · have h21:=bl h20;have p22:=dt h21;have h23:=br h20;have p24:=dt h23;refine gx tv21 11 ?_;refine rt1 rfl rfl (ple ?_);have hbo:Cg_ false=[]:=rfl
        simp only[hbo] at *
        refine congrArg (PV.int .i64) ?_
        simp only[bl1] at *
        unfold Gk_
        (repeat' split)<;>first|rfl|(exfalso;omega)|(exfalso;simp_all;done)|(exfalso;simp_all;omega)|grind
      refine gx tv21 9 ?_;refine rt1 rfl rfl (ple ?_);have hbo:Cg_ false=[]:=rfl
      simp only[hbo] at *
      refine congrArg (PV.int .i64) ?_
      simp only[bl1] at *
      unfold Gk_
      (repeat' split)<;>first|rfl|(exfalso;omega)|(exfalso;simp_all;done)|(exfalso;simp_all;omega)|grind
    have p25:=df h7;refine gy tv21 15 ?_;refine cnd rfl (fun h26=>?_) (fun h26=>?_)
    · have h27:=bl h26;have p28:=dt h27;have h29:=br h26;have p30:=dt h29;refine gy tv21 16 ?_;refine cnd rfl (fun h31=>?_) (fun h31=>?_)
      · have h32:=bl h31;have p33:=dt h32;have h34:=br h31;have p35:=dt h34;refine gx tv21 11 ?_;refine rt1 rfl rfl (ple ?_);have hbo:Cg_ false=[]:=rfl
        simp only[hbo] at *
        refine congrArg (PV.int .i64) ?_
        simp only[bl1] at *
        unfold Gk_
        (repeat' split)<;>first|rfl|(exfalso;omega)|(exfalso;simp_all;done)|(exfalso;simp_all;omega)|grind
      refine gx tv21 9 ?_;refine rt1 rfl rfl (ple ?_);have hbo:Cg_ false=[]:=rfl
      simp only[hbo] at *
      refine congrArg (PV.int .i64) ?_
      simp only[bl1] at *
      unfold Gk_
      (repeat' split)<;>first|rfl|(exfalso;omega)|(exfalso;simp_all;done)|(exfalso;simp_all;omega)|grind
    refine gy tv21 14 ?_;refine cnd rfl (fun h36=>?_) (fun h36=>?_)
    · have h37:=bl h36;have p38:=dt h37;have h39:=br h36;have p40:=dt h39;refine gx tv21 11 ?_;refine rt1 rfl rfl (ple ?_);have hbo:Cg_ false=[]:=rfl
      simp only[hbo] at *
      refine congrArg (PV.int .i64) ?_
      simp only[bl1] at *
      unfold Gk_
      (repeat' split)<;>first|rfl|(exfalso;omega)|(exfalso;simp_all;done)|(exfalso;simp_all;omega)|grind
    refine gx tv21 9 ?_;refine rt1 rfl rfl (ple ?_);have hbo:Cg_ false=[]:=rfl
    simp only[hbo] at *
    refine congrArg (PV.int .i64) ?_
    simp only[bl1] at *
    unfold Gk_
    (repeat' split)<;>first|rfl|(exfalso;omega)|(exfalso;simp_all;done)|(exfalso;simp_all;omega)|grind
  have p41:=df h4;refine gx tv21 9 ?_;refine cndF rfl h4 ?_;refine gy tv21 15 ?_;refine cnd rfl (fun h42=>?_) (fun h42=>?_)
  · have h43:=bl h42;have p44:=dt h43;have h45:=br h42;have p46:=dt h45;refine gy tv21 16 ?_;refine cnd rfl (fun h47=>?_) (fun h47=>?_)
    · have h48:=bl h47;have p49:=dt h48;have h50:=br h47;have p51:=dt h50;refine gx tv21 11 ?_;refine rt1 rfl rfl (ple ?_);have hbo:Cg_ false=[]:=rfl
      simp only[hbo] at *
      refine congrArg (PV.int .i64) ?_
      simp only[bl1] at *
      unfold Gk_
      (repeat' split)<;>first|rfl|(exfalso;omega)|(exfalso;simp_all;done)|(exfalso;simp_all;omega)|grind
    refine gx tv21 9 ?_;refine rt1 rfl rfl (ple ?_);have hbo:Cg_ false=[]:=rfl
    simp only[hbo] at *
    refine congrArg (PV.int .i64) ?_
    simp only[bl1] at *
    unfold Gk_
    (repeat' split)<;>first|rfl|(exfalso;omega)|(exfalso;simp_all;done)|(exfalso;simp_all;omega)|grind
  refine gy tv21 14 ?_;refine cnd rfl (fun h52=>?_) (fun h52=>?_)
  · have h53:=bl h52;have p54:=dt h53;have h55:=br h52;have p56:=dt h55;refine gx tv21 11 ?_;refine rt1 rfl rfl (ple ?_);have hbo:Cg_ false=[]:=rfl
    simp only[hbo] at *
    refine congrArg (PV.int .i64) ?_
    simp only[bl1] at *
    unfold Gk_
    (repeat' split)<;>first|rfl|(exfalso;omega)|(exfalso;simp_all;done)|(exfalso;simp_all;omega)|grind
  refine gx tv21 9 ?_;refine rt1 rfl rfl (ple ?_);have hbo:Cg_ false=[]:=rfl
  simp only[hbo] at *
  refine congrArg (PV.int .i64) ?_
  simp only[bl1] at *
  unfold Gk_
  (repeat' split)<;>first|rfl|(exfalso;omega)|(exfalso;simp_all;done)|(exfalso;simp_all;omega)|grind
theorem r22_Check (d:DeedR):Fn Tryz.prog gb 142 [.agg (DeedR.pc d)] (.int .i64 (B9_ d)):=by
  refine fC Tryz.func142 tv21 Tryz.ntmps142 fun w N H hG=>?_;have d_w:=DeedR.pwf w.1;have d_w':=d_w
  simp only[DeedR.wf,ShopR.wf,Aa_.wf,BindR.wf,Mail.wf] at d_w'
  have d_bind_want_k:=DeedR.kd13 w.1;have d_bind_want_k2:d.bind.want.length<=140737488355328:=w.1.2.2.2.2.2.2.2.2.2.2.2.2.2.1.1;have d_mail_head_k:=DeedR.kd24 w.1;have d_mail_head_k2:d.mail.head.length<=140737488355328:=w.1.2.2.2.2.2.2.2.2.2.2.2.2.2.2.2.2.2.2.2.2.2.2.2.2.1.1;refine gm tv21 14 [0] fun B2=>?_;refine cn rfl (fun p4=>?_) fun p5=>?_
  · refine gx tv21 7 ?_;refine rt1 rfl rfl (ple ?_);refine congrArg (PV.int .i64) ?_
    (try simp only[bl1] at *)
    unfold B9_
    (repeat (first|rw[if_pos (by omega)]|rw[if_neg (by omega)]|rw[if_pos (by assumption)]|rw[if_neg (by assumption)]|rw[if_neg (not_not_intro (by assumption))]))
    all_goals first|done|rfl|omega|(simp only[Bz_,Bq_,decide_eq_true_eq];(repeat (first|rw[if_pos (by omega)]|rw[if_neg (by omega)]|rw[if_pos (by assumption)]|rw[if_neg (by assumption)]|rw[if_neg (not_not_intro (by assumption))]));first|done|rfl|omega|((repeat' split)<;>first|rfl|omega|grind))
  refine gx tv21 6 ?_;refine call (r22_spare _) rfl rfl fun w6=>?_;refine gx tv21 2 ?_;refine cnd rfl (fun h7=>?_) (fun h7=>?_)
  · have h8:=Br_ h7;have p9:=df h8;refine gx tv21 7 ?_;refine rt1 rfl rfl (ple ?_);refine congrArg (PV.int .i64) ?_
    (try simp only[bl1] at *)
    unfold B9_
    (repeat (first|rw[if_pos (by omega)]|rw[if_neg (by omega)]|rw[if_pos (by assumption)]|rw[if_neg (by assumption)]|rw[if_neg (not_not_intro (by assumption))]))
    all_goals first|done|rfl|omega|(simp only[Bz_,Bq_,decide_eq_true_eq];(repeat (first|rw[if_pos (by omega)]|rw[if_neg (by omega)]|rw[if_pos (by assumption)]|rw[if_neg (by assumption)]|rw[if_neg (not_not_intro (by assumption))]));first|done|rfl|omega|((repeat' split)<;>first|rfl|omega|grind))
  have h10:=Bf_ h7;have p11:=dt h10;obtain⟨t1,t2,t3,t4,t5,t6,t7,t8,t9,t10,t11⟩:=Js_.1 p11;refine gx tv21 21 ?_;refine cn rfl (fun p13=>?_) fun p42=>?_
  · refine gx tv21 5 ?_;refine call (H7_ _) rfl rfl fun w14=>?_;refine gy tv21 16 ?_;refine cnd rfl (fun h15=>?_) (fun h15=>?_)
    · have h16:=bl h15;have p17:=dt h16;have h18:=br h15;have p19:=dt h18;refine gx tv21 10 ?_;refine cndF rfl (by decide) ?_;refine gx tv21 8 ?_;refine call (Ew_ _) rfl rfl fun w20=>?_;refine gx tv21 2 ?_;refine cndF rfl (fd (by omega)) ?_;refine gy tv21 14 ?_;refine cnd rfl (fun h21=>?_) (fun h21=>?_)
      · have h22:=bl h21;have p23:=dt h22;have h24:=br h21;have p25:=dt h24;refine gx tv21 11 ?_;refine rt1 rfl rfl (ple ?_);refine congrArg (PV.int .i64) ?_
        (try simp only[bl1] at *)
        unfold B9_
        (repeat (first|rw[if_pos (by omega)]|rw[if_neg (by omega)]|rw[if_pos (by assumption)]|rw[if_neg (by assumption)]|rw[if_neg (not_not_intro (by assumption))]))
        all_goals first|done|rfl|omega|(simp only[Bz_,Bq_,decide_eq_true_eq];(repeat (first|rw[if_pos (by omega)]|rw[if_neg (by omega)]|rw[if_pos (by assumption)]|rw[if_neg (by assumption)]|rw[if_neg (not_not_intro (by assumption))]));first|done|rfl|omega|((repeat' split)<;>first|rfl|omega|grind))
      refine gx tv21 9 ?_;refine rt1 rfl rfl (ple ?_);refine congrArg (PV.int .i64) ?_
      (try simp only[bl1] at *)
      unfold B9_
      (repeat (first|rw[if_pos (by omega)]|rw[if_neg (by omega)]|rw[if_pos (by assumption)]|rw[if_neg (by assumption)]|rw[if_neg (not_not_intro (by assumption))]))
      all_goals first|done|rfl|omega|(simp only[Bz_,Bq_,decide_eq_true_eq];(repeat (first|rw[if_pos (by omega)]|rw[if_neg (by omega)]|rw[if_pos (by assumption)]|rw[if_neg (by assumption)]|rw[if_neg (not_not_intro (by assumption))]));first|done|rfl|omega|((repeat' split)<;>first|rfl|omega|grind))
    refine gx tv21 8 ?_;refine cn rfl (fun p27=>?_) fun p35=>?_
    · refine gx tv21 4 ?_;refine call (Vh_ _) rfl rfl fun w28=>?_;have :=Jr_ d.shop.to;refine gx tv21 9 ?_;refine call (Ew_ _) rfl rfl fun w29=>?_;refine gx tv21 2 ?_;refine cndF rfl (fd (by omega)) ?_;refine gy tv21 14 ?_;refine cnd rfl (fun h30=>?_) (fun h30=>?_)
      · have h31:=bl h30;have p32:=dt h31;have h33:=br h30;have p34:=dt h33;refine gx tv21 11 ?_;refine rt1 rfl rfl (ple ?_);refine congrArg (PV.int .i64) ?_
        (try simp only[bl1] at *)
        unfold B9_
        (repeat (first|rw[if_pos (by omega)]|rw[if_neg (by omega)]|rw[if_pos (by assumption)]|rw[if_neg (by assumption)]|rw[if_neg (not_not_intro (by assumption))]))
        all_goals first|done|rfl|omega|(simp only[Bz_,Bq_,decide_eq_true_eq];(repeat (first|rw[if_pos (by omega)]|rw[if_neg (by omega)]|rw[if_pos (by assumption)]|rw[if_neg (by assumption)]|rw[if_neg (not_not_intro (by assumption))]));first|done|rfl|omega|((repeat' split)<;>first|rfl|omega|grind))
      refine gx tv21 9 ?_;refine rt1 rfl rfl (ple ?_);refine congrArg (PV.int .i64) ?_
      (try simp only[bl1] at *)
      unfold B9_
      (repeat (first|rw[if_pos (by omega)]|rw[if_neg (by omega)]|rw[if_pos (by assumption)]|rw[if_neg (by assumption)]|rw[if_neg (not_not_intro (by assumption))]))
      all_goals first|done|rfl|omega|(simp only[Bz_,Bq_,decide_eq_true_eq];(repeat (first|rw[if_pos (by omega)]|rw[if_neg (by omega)]|rw[if_pos (by assumption)]|rw[if_neg (by assumption)]|rw[if_neg (not_not_intro (by assumption))]));first|done|rfl|omega|((repeat' split)<;>first|rfl|omega|grind))
    refine gx tv21 8 ?_;refine call (Ew_ _) rfl rfl fun w36=>?_;refine gx tv21 2 ?_;refine cndF rfl (fd (by omega)) ?_;refine gy tv21 14 ?_;refine cnd rfl (fun h37=>?_) (fun h37=>?_)
    · have h38:=bl h37;have p39:=dt h38;have h40:=br h37;have p41:=dt h40;refine gx tv21 11 ?_;refine rt1 rfl rfl (ple ?_);refine congrArg (PV.int .i64) ?_
      (try simp only[bl1] at *)
      unfold B9_
      (repeat (first|rw[if_pos (by omega)]|rw[if_neg (by omega)]|rw[if_pos (by assumption)]|rw[if_neg (by assumption)]|rw[if_neg (not_not_intro (by assumption))]))
      all_goals first|done|rfl|omega|(simp only[Bz_,Bq_,decide_eq_true_eq];(repeat (first|rw[if_pos (by omega)]|rw[if_neg (by omega)]|rw[if_pos (by assumption)]|rw[if_neg (by assumption)]|rw[if_neg (not_not_intro (by assumption))]));first|done|rfl|omega|((repeat' split)<;>first|rfl|omega|grind))
    refine gx tv21 9 ?_;refine rt1 rfl rfl (ple ?_);refine congrArg (PV.int .i64) ?_
    (try simp only[bl1] at *)
    unfold B9_
    (repeat (first|rw[if_pos (by omega)]|rw[if_neg (by omega)]|rw[if_pos (by assumption)]|rw[if_neg (by assumption)]|rw[if_neg (not_not_intro (by assumption))]))
    all_goals first|done|rfl|omega|(simp only[Bz_,Bq_,decide_eq_true_eq];(repeat (first|rw[if_pos (by omega)]|rw[if_neg (by omega)]|rw[if_pos (by assumption)]|rw[if_neg (by assumption)]|rw[if_neg (not_not_intro (by assumption))]));first|done|rfl|omega|((repeat' split)<;>first|rfl|omega|grind))
  refine gx tv21 6 ?_;refine cn rfl (fun p44=>?_) fun p62=>?_
  · refine gx tv21 5 ?_;refine call (H7_ _) rfl rfl fun w45=>?_;refine gx tv21 9 ?_;refine cn rfl (fun p47=>?_) fun p55=>?_
    · refine gx tv21 4 ?_;refine call (Vh_ _) rfl rfl fun w48=>?_;have :=Jr_ d.queue.dead;refine gx tv21 9 ?_;refine call (Ew_ _) rfl rfl fun w49=>?_;refine gx tv21 2 ?_;refine cndF rfl (fd (by omega)) ?_;refine gy tv21 14 ?_;refine cnd rfl (fun h50=>?_) (fun h50=>?_)
      · have h51:=bl h50;have p52:=dt h51;have h53:=br h50;have p54:=dt h53;refine gx tv21 11 ?_;refine rt1 rfl rfl (ple ?_);refine congrArg (PV.int .i64) ?_
        (try simp only[bl1] at *)
        unfold B9_
        (repeat (first|rw[if_pos (by omega)]|rw[if_neg (by omega)]|rw[if_pos (by assumption)]|rw[if_neg (by assumption)]|rw[if_neg (not_not_intro (by assumption))]))
        all_goals first|done|rfl|omega|(simp only[Bz_,Bq_,decide_eq_true_eq];(repeat (first|rw[if_pos (by omega)]|rw[if_neg (by omega)]|rw[if_pos (by assumption)]|rw[if_neg (by assumption)]|rw[if_neg (not_not_intro (by assumption))]));first|done|rfl|omega|((repeat' split)<;>first|rfl|omega|grind))
      refine gx tv21 9 ?_;refine rt1 rfl rfl (ple ?_);refine congrArg (PV.int .i64) ?_
      (try simp only[bl1] at *)
      unfold B9_
      (repeat (first|rw[if_pos (by omega)]|rw[if_neg (by omega)]|rw[if_pos (by assumption)]|rw[if_neg (by assumption)]|rw[if_neg (not_not_intro (by assumption))]))
      all_goals first|done|rfl|omega|(simp only[Bz_,Bq_,decide_eq_true_eq];(repeat (first|rw[if_pos (by omega)]|rw[if_neg (by omega)]|rw[if_pos (by assumption)]|rw[if_neg (by assumption)]|rw[if_neg (not_not_intro (by assumption))]));first|done|rfl|omega|((repeat' split)<;>first|rfl|omega|grind))
    refine gx tv21 8 ?_;refine call (Ew_ _) rfl rfl fun w56=>?_;refine gx tv21 2 ?_;refine cndF rfl (fd (by omega)) ?_;refine gy tv21 14 ?_;refine cnd rfl (fun h57=>?_) (fun h57=>?_)
    · have h58:=bl h57;have p59:=dt h58;have h60:=br h57;have p61:=dt h60;refine gx tv21 11 ?_;refine rt1 rfl rfl (ple ?_);refine congrArg (PV.int .i64) ?_
      (try simp only[bl1] at *)
      unfold B9_
      (repeat (first|rw[if_pos (by omega)]|rw[if_neg (by omega)]|rw[if_pos (by assumption)]|rw[if_neg (by assumption)]|rw[if_neg (not_not_intro (by assumption))]))
      all_goals first|done|rfl|omega|(simp only[Bz_,Bq_,decide_eq_true_eq];(repeat (first|rw[if_pos (by omega)]|rw[if_neg (by omega)]|rw[if_pos (by assumption)]|rw[if_neg (by assumption)]|rw[if_neg (not_not_intro (by assumption))]));first|done|rfl|omega|((repeat' split)<;>first|rfl|omega|grind))
    refine gx tv21 9 ?_;refine rt1 rfl rfl (ple ?_);refine congrArg (PV.int .i64) ?_
    (try simp only[bl1] at *)
    unfold B9_
    (repeat (first|rw[if_pos (by omega)]|rw[if_neg (by omega)]|rw[if_pos (by assumption)]|rw[if_neg (by assumption)]|rw[if_neg (not_not_intro (by assumption))]))
    all_goals first|done|rfl|omega|(simp only[Bz_,Bq_,decide_eq_true_eq];(repeat (first|rw[if_pos (by omega)]|rw[if_neg (by omega)]|rw[if_pos (by assumption)]|rw[if_neg (by assumption)]|rw[if_neg (not_not_intro (by assumption))]));first|done|rfl|omega|((repeat' split)<;>first|rfl|omega|grind))
  refine gx tv21 7 ?_;refine cnd rfl (fun h63=>?_) (fun h63=>?_)
  · have p64:=dt h63;refine gx tv21 2 ?_;refine cndT rfl h63 ?_;refine gx tv21 3 ?_;refine call (Mh_ _) rfl rfl fun w65=>?_;have :=bindE_r d.bind;refine gx tv21 9 ?_;refine call (Ew_ _) rfl rfl fun w66=>?_;refine gx tv21 2 ?_;refine cndF rfl (fd (by omega)) ?_;refine gy tv21 14 ?_;refine cnd rfl (fun h67=>?_) (fun h67=>?_)
    · have h68:=bl h67;have p69:=dt h68;have h70:=br h67;have p71:=dt h70;refine gx tv21 11 ?_;refine rt1 rfl rfl (ple ?_);refine congrArg (PV.int .i64) ?_
      (try simp only[bl1] at *)
      unfold B9_
      (repeat (first|rw[if_pos (by omega)]|rw[if_neg (by omega)]|rw[if_pos (by assumption)]|rw[if_neg (by assumption)]|rw[if_neg (not_not_intro (by assumption))]))
      all_goals first|done|rfl|omega|(simp only[Bz_,Bq_,decide_eq_true_eq];(repeat (first|rw[if_pos (by omega)]|rw[if_neg (by omega)]|rw[if_pos (by assumption)]|rw[if_neg (by assumption)]|rw[if_neg (not_not_intro (by assumption))]));first|done|rfl|omega|((repeat' split)<;>first|rfl|omega|grind))
    refine gx tv21 9 ?_;refine rt1 rfl rfl (ple ?_);refine congrArg (PV.int .i64) ?_
    (try simp only[bl1] at *)
    unfold B9_
    (repeat (first|rw[if_pos (by omega)]|rw[if_neg (by omega)]|rw[if_pos (by assumption)]|rw[if_neg (by assumption)]|rw[if_neg (not_not_intro (by assumption))]))
    all_goals first|done|rfl|omega|(simp only[Bz_,Bq_,decide_eq_true_eq];(repeat (first|rw[if_pos (by omega)]|rw[if_neg (by omega)]|rw[if_pos (by assumption)]|rw[if_neg (by assumption)]|rw[if_neg (not_not_intro (by assumption))]));first|done|rfl|omega|((repeat' split)<;>first|rfl|omega|grind))
  have p72:=df h63;refine gx tv21 5 ?_;refine cn rfl (fun p74=>?_) fun p82=>?_
  · refine gx tv21 3 ?_;refine call (Mh_ _) rfl rfl fun w75=>?_;have :=bindE_r d.bind;refine gx tv21 9 ?_;refine call (Ew_ _) rfl rfl fun w76=>?_;refine gx tv21 2 ?_;refine cndF rfl (fd (by omega)) ?_;refine gy tv21 14 ?_;refine cnd rfl (fun h77=>?_) (fun h77=>?_)
    · have h78:=bl h77;have p79:=dt h78;have h80:=br h77;have p81:=dt h80;refine gx tv21 11 ?_;refine rt1 rfl rfl (ple ?_);refine congrArg (PV.int .i64) ?_
      (try simp only[bl1] at *)
      unfold B9_
      (repeat (first|rw[if_pos (by omega)]|rw[if_neg (by omega)]|rw[if_pos (by assumption)]|rw[if_neg (by assumption)]|rw[if_neg (not_not_intro (by assumption))]))
      all_goals first|done|rfl|omega|(simp only[Bz_,Bq_,decide_eq_true_eq];(repeat (first|rw[if_pos (by omega)]|rw[if_neg (by omega)]|rw[if_pos (by assumption)]|rw[if_neg (by assumption)]|rw[if_neg (not_not_intro (by assumption))]));first|done|rfl|omega|((repeat' split)<;>first|rfl|omega|grind))
    refine gx tv21 9 ?_;refine rt1 rfl rfl (ple ?_);refine congrArg (PV.int .i64) ?_
    (try simp only[bl1] at *)
    unfold B9_
    (repeat (first|rw[if_pos (by omega)]|rw[if_neg (by omega)]|rw[if_pos (by assumption)]|rw[if_neg (by assumption)]|rw[if_neg (not_not_intro (by assumption))]))
    all_goals first|done|rfl|omega|(simp only[Bz_,Bq_,decide_eq_true_eq];(repeat (first|rw[if_pos (by omega)]|rw[if_neg (by omega)]|rw[if_pos (by assumption)]|rw[if_neg (by assumption)]|rw[if_neg (not_not_intro (by assumption))]));first|done|rfl|omega|((repeat' split)<;>first|rfl|omega|grind))
  refine gx tv21 7 ?_;refine cnd rfl (fun h83=>?_) (fun h83=>?_)
  · have p84:=dt h83;refine gx tv21 2 ?_;refine cndT rfl h83 ?_;refine gx tv21 3 ?_;refine call (Xu_ _) rfl rfl fun w85=>?_;have :=Oc_ d.mail;refine gx tv21 9 ?_;refine call (Ew_ _) rfl rfl fun w86=>?_;refine gx tv21 2 ?_;refine cndF rfl (fd (by omega)) ?_;refine gy tv21 14 ?_;refine cnd rfl (fun h87=>?_) (fun h87=>?_)
    · have h88:=bl h87;have p89:=dt h88;have h90:=br h87;have p91:=dt h90;refine gx tv21 11 ?_;refine rt1 rfl rfl (ple ?_);refine congrArg (PV.int .i64) ?_
      (try simp only[bl1] at *)
      unfold B9_
      (repeat (first|rw[if_pos (by omega)]|rw[if_neg (by omega)]|rw[if_pos (by assumption)]|rw[if_neg (by assumption)]|rw[if_neg (not_not_intro (by assumption))]))
      all_goals first|done|rfl|omega|(simp only[Bz_,Bq_,decide_eq_true_eq];(repeat (first|rw[if_pos (by omega)]|rw[if_neg (by omega)]|rw[if_pos (by assumption)]|rw[if_neg (by assumption)]|rw[if_neg (not_not_intro (by assumption))]));first|done|rfl|omega|((repeat' split)<;>first|rfl|omega|grind))
    refine gx tv21 9 ?_;refine rt1 rfl rfl (ple ?_);refine congrArg (PV.int .i64) ?_
    (try simp only[bl1] at *)
    unfold B9_
    (repeat (first|rw[if_pos (by omega)]|rw[if_neg (by omega)]|rw[if_pos (by assumption)]|rw[if_neg (by assumption)]|rw[if_neg (not_not_intro (by assumption))]))
    all_goals first|done|rfl|omega|(simp only[Bz_,Bq_,decide_eq_true_eq];(repeat (first|rw[if_pos (by omega)]|rw[if_neg (by omega)]|rw[if_pos (by assumption)]|rw[if_neg (by assumption)]|rw[if_neg (not_not_intro (by assumption))]));first|done|rfl|omega|((repeat' split)<;>first|rfl|omega|grind))
  have p92:=df h83;refine gx tv21 5 ?_;refine cn rfl (fun p94=>?_) fun p102=>?_
  · refine gx tv21 3 ?_;refine call (Xu_ _) rfl rfl fun w95=>?_;have :=Oc_ d.mail;refine gx tv21 9 ?_;refine call (Ew_ _) rfl rfl fun w96=>?_;refine gx tv21 2 ?_;refine cndF rfl (fd (by omega)) ?_;refine gy tv21 14 ?_;refine cnd rfl (fun h97=>?_) (fun h97=>?_)
    · have h98:=bl h97;have p99:=dt h98;have h100:=br h97;have p101:=dt h100;refine gx tv21 11 ?_;refine rt1 rfl rfl (ple ?_);refine congrArg (PV.int .i64) ?_
      (try simp only[bl1] at *)
      unfold B9_
      (repeat (first|rw[if_pos (by omega)]|rw[if_neg (by omega)]|rw[if_pos (by assumption)]|rw[if_neg (by assumption)]|rw[if_neg (not_not_intro (by assumption))]))
      all_goals first|done|rfl|omega|(simp only[Bz_,Bq_,decide_eq_true_eq];(repeat (first|rw[if_pos (by omega)]|rw[if_neg (by omega)]|rw[if_pos (by assumption)]|rw[if_neg (by assumption)]|rw[if_neg (not_not_intro (by assumption))]));first|done|rfl|omega|((repeat' split)<;>first|rfl|omega|grind))
    refine gx tv21 9 ?_;refine rt1 rfl rfl (ple ?_);refine congrArg (PV.int .i64) ?_
    (try simp only[bl1] at *)
    unfold B9_
    (repeat (first|rw[if_pos (by omega)]|rw[if_neg (by omega)]|rw[if_pos (by assumption)]|rw[if_neg (by assumption)]|rw[if_neg (not_not_intro (by assumption))]))
    all_goals first|done|rfl|omega|(simp only[Bz_,Bq_,decide_eq_true_eq];(repeat (first|rw[if_pos (by omega)]|rw[if_neg (by omega)]|rw[if_pos (by assumption)]|rw[if_neg (by assumption)]|rw[if_neg (not_not_intro (by assumption))]));first|done|rfl|omega|((repeat' split)<;>first|rfl|omega|grind))
  refine gx tv21 6 ?_;refine cn rfl (fun p104=>?_) fun p120=>?_
  · refine gx tv21 8 ?_;refine cn rfl (fun p106=>?_) fun p113=>?_
    · refine gx tv21 10 ?_;refine call (Ew_ _) rfl rfl fun w107=>?_;refine gx tv21 2 ?_;refine cndF rfl (fd (by omega)) ?_;refine gy tv21 14 ?_;refine cnd rfl (fun h108=>?_) (fun h108=>?_)
      · have h109:=bl h108;have p110:=dt h109;have h111:=br h108;have p112:=dt h111;refine gx tv21 11 ?_;refine rt1 rfl rfl (ple ?_);refine congrArg (PV.int .i64) ?_
        (try simp only[bl1] at *)
        unfold B9_
        (repeat (first|rw[if_pos (by omega)]|rw[if_neg (by omega)]|rw[if_pos (by assumption)]|rw[if_neg (by assumption)]|rw[if_neg (not_not_intro (by assumption))]))
        all_goals first|done|rfl|omega|(simp only[Bz_,Bq_,decide_eq_true_eq];(repeat (first|rw[if_pos (by omega)]|rw[if_neg (by omega)]|rw[if_pos (by assumption)]|rw[if_neg (by assumption)]|rw[if_neg (not_not_intro (by assumption))]));first|done|rfl|omega|((repeat' split)<;>first|rfl|omega|grind))
      refine gx tv21 9 ?_;refine rt1 rfl rfl (ple ?_);refine congrArg (PV.int .i64) ?_
      (try simp only[bl1] at *)
      unfold B9_
      (repeat (first|rw[if_pos (by omega)]|rw[if_neg (by omega)]|rw[if_pos (by assumption)]|rw[if_neg (by assumption)]|rw[if_neg (not_not_intro (by assumption))]))
      all_goals first|done|rfl|omega|(simp only[Bz_,Bq_,decide_eq_true_eq];(repeat (first|rw[if_pos (by omega)]|rw[if_neg (by omega)]|rw[if_pos (by assumption)]|rw[if_neg (by assumption)]|rw[if_neg (not_not_intro (by assumption))]));first|done|rfl|omega|((repeat' split)<;>first|rfl|omega|grind))
    refine gx tv21 8 ?_;refine call (Ew_ _) rfl rfl fun w114=>?_;refine gx tv21 2 ?_;refine cndF rfl (fd (by omega)) ?_;refine gy tv21 14 ?_;refine cnd rfl (fun h115=>?_) (fun h115=>?_)
    · have h116:=bl h115;have p117:=dt h116;have h118:=br h115;have p119:=dt h118;refine gx tv21 11 ?_;refine rt1 rfl rfl (ple ?_);refine congrArg (PV.int .i64) ?_
      (try simp only[bl1] at *)
      unfold B9_
      (repeat (first|rw[if_pos (by omega)]|rw[if_neg (by omega)]|rw[if_pos (by assumption)]|rw[if_neg (by assumption)]|rw[if_neg (not_not_intro (by assumption))]))
      all_goals first|done|rfl|omega|(simp only[Bz_,Bq_,decide_eq_true_eq];(repeat (first|rw[if_pos (by omega)]|rw[if_neg (by omega)]|rw[if_pos (by assumption)]|rw[if_neg (by assumption)]|rw[if_neg (not_not_intro (by assumption))]));first|done|rfl|omega|((repeat' split)<;>first|rfl|omega|grind))
    refine gx tv21 9 ?_;refine rt1 rfl rfl (ple ?_);refine congrArg (PV.int .i64) ?_
    (try simp only[bl1] at *)
    unfold B9_
    (repeat (first|rw[if_pos (by omega)]|rw[if_neg (by omega)]|rw[if_pos (by assumption)]|rw[if_neg (by assumption)]|rw[if_neg (not_not_intro (by assumption))]))
    all_goals first|done|rfl|omega|(simp only[Bz_,Bq_,decide_eq_true_eq];(repeat (first|rw[if_pos (by omega)]|rw[if_neg (by omega)]|rw[if_pos (by assumption)]|rw[if_neg (by assumption)]|rw[if_neg (not_not_intro (by assumption))]));first|done|rfl|omega|((repeat' split)<;>first|rfl|omega|grind))
  refine gx tv21 8 ?_;refine call (Ew_ _) rfl rfl fun w121=>?_;refine gx tv21 2 ?_;refine cn rfl (fun p123=>?_) fun p130=>?_
  · refine gx tv21 3 ?_;refine call (H7_ _) rfl rfl fun w124=>?_;refine gy tv21 15 ?_;refine cnd rfl (fun h125=>?_) (fun h125=>?_)
    · have h126:=bl h125;have p127:=dt h126;have h128:=br h125;have p129:=dt h128;refine gx tv21 11 ?_;refine rt1 rfl rfl (ple ?_);refine congrArg (PV.int .i64) ?_
      (try simp only[bl1] at *)
      unfold B9_
      (repeat (first|rw[if_pos (by omega)]|rw[if_neg (by omega)]|rw[if_pos (by assumption)]|rw[if_neg (by assumption)]|rw[if_neg (not_not_intro (by assumption))]))
      all_goals first|done|rfl|omega|(simp only[Bz_,Bq_,decide_eq_true_eq];(repeat (first|rw[if_pos (by omega)]|rw[if_neg (by omega)]|rw[if_pos (by assumption)]|rw[if_neg (by assumption)]|rw[if_neg (not_not_intro (by assumption))]));first|done|rfl|omega|((repeat' split)<;>first|rfl|omega|grind))
    refine gx tv21 9 ?_;refine rt1 rfl rfl (ple ?_);refine congrArg (PV.int .i64) ?_
    (try simp only[bl1] at *)
    unfold B9_
    (repeat (first|rw[if_pos (by omega)]|rw[if_neg (by omega)]|rw[if_pos (by assumption)]|rw[if_neg (by assumption)]|rw[if_neg (not_not_intro (by assumption))]))
    all_goals first|done|rfl|omega|(simp only[Bz_,Bq_,decide_eq_true_eq];(repeat (first|rw[if_pos (by omega)]|rw[if_neg (by omega)]|rw[if_pos (by assumption)]|rw[if_neg (by assumption)]|rw[if_neg (not_not_intro (by assumption))]));first|done|rfl|omega|((repeat' split)<;>first|rfl|omega|grind))
  refine gy tv21 14 ?_;refine cnd rfl (fun h131=>?_) (fun h131=>?_)
  · have h132:=bl h131;have p133:=dt h132;have h134:=br h131;have p135:=dt h134;refine gx tv21 11 ?_;refine rt1 rfl rfl (ple ?_);refine congrArg (PV.int .i64) ?_
    (try simp only[bl1] at *)
    unfold B9_
    (repeat (first|rw[if_pos (by omega)]|rw[if_neg (by omega)]|rw[if_pos (by assumption)]|rw[if_neg (by assumption)]|rw[if_neg (not_not_intro (by assumption))]))
    all_goals first|done|rfl|omega|(simp only[Bz_,Bq_,decide_eq_true_eq];(repeat (first|rw[if_pos (by omega)]|rw[if_neg (by omega)]|rw[if_pos (by assumption)]|rw[if_neg (by assumption)]|rw[if_neg (not_not_intro (by assumption))]));first|done|rfl|omega|((repeat' split)<;>first|rfl|omega|grind))
  refine gx tv21 9 ?_;refine rt1 rfl rfl (ple ?_);refine congrArg (PV.int .i64) ?_
  (try simp only[bl1] at *)
  unfold B9_
  (repeat (first|rw[if_pos (by omega)]|rw[if_neg (by omega)]|rw[if_pos (by assumption)]|rw[if_neg (by assumption)]|rw[if_neg (not_not_intro (by assumption))]))
  all_goals first|done|rfl|omega|(simp only[Bz_,Bq_,decide_eq_true_eq];(repeat (first|rw[if_pos (by omega)]|rw[if_neg (by omega)]|rw[if_pos (by assumption)]|rw[if_neg (by assumption)]|rw[if_neg (not_not_intro (by assumption))]));first|done|rfl|omega|((repeat' split)<;>first|rfl|omega|grind))
abbrev ty322:TI:=⟨.agg [(0,1),(1,1),(2,1),(3,1)],4,56,[.int .u8 0, .str [], .sl Pair.pc [], .bool false]⟩
def tbv22:Tb:=[(4,ty4),(5,ty5),(9,ty9),(47,ty47),(199,Wr_),(322,ty322)]
theorem tv22:tbB Tryz.prog tbv22=true:=by kernel_rfl
theorem Sc_ (r:Rule):Fn Tryz.prog gb 226 [.agg (Rule.pc r)] (.int .i64 (U5_ r)):=by
  refine fC Tryz.func226 tv22 Tryz.ntmps226 fun w N H hG=>?_;have r_w:=Rule.pwf w.1;have r_w':=r_w
  simp only[Rule.wf] at r_w'
  have r_want_k:=Rule.kd2 w.1;have r_want_k2:r.want.length<=140737488355328:=w.1.2.2.1.1;refine gm tv22 21 [0] fun B2=>?_;refine cn rfl (fun p4=>?_) fun p5=>?_
  · refine gx tv22 8 ?_;refine rt1 rfl rfl (ple ?_);refine congrArg (PV.int .i64) ?_
    (try simp only[bl1] at *)
    unfold U5_
    repeat (first|rw[if_pos (by omega)]|rw[if_neg (by omega)])
    all_goals first|done|rfl|omega
  refine gx tv22 8 ?_;refine cn rfl (fun p7=>?_) fun p15=>?_
  · refine gx tv22 3 ?_;refine call (Mi_ _) rfl rfl fun w8=>?_;refine gx tv22 11 ?_;refine cnd rfl (fun h9=>?_) (fun h9=>?_)
    · have h10:=Br_ h9;have p11:=df h10;refine gx tv22 8 ?_;refine rt1 rfl rfl (ple ?_);refine congrArg (PV.int .i64) ?_
      (try simp only[bl1] at *)
      unfold U5_
      repeat (first|rw[if_pos (by omega)]|rw[if_neg (by omega)])
      all_goals first|done|rfl|omega
    have h12:=Bf_ h9;have p13:=dt h12;refine gx tv22 6 ?_;refine call (Gj_ _) rfl rfl fun w14=>?_;refine gx tv22 4 ?_;refine rt1 rfl rfl (ple ?_);refine congrArg (PV.int .i64) ?_
    (try simp only[bl1] at *)
    unfold U5_
    repeat (first|rw[if_pos (by omega)]|rw[if_neg (by omega)])
    all_goals first|done|rfl|omega
  refine gx tv22 3 ?_;refine call (Mp_ _) rfl rfl fun w16=>?_;refine gx tv22 11 ?_;refine cnd rfl (fun h17=>?_) (fun h17=>?_)
  · have h18:=Br_ h17;have p19:=df h18;refine gx tv22 8 ?_;refine rt1 rfl rfl (ple ?_);refine congrArg (PV.int .i64) ?_
    (try simp only[bl1] at *)
    unfold U5_
    repeat (first|rw[if_pos (by omega)]|rw[if_neg (by omega)])
    all_goals first|done|rfl|omega
  have h20:=Bf_ h17;have p21:=dt h20;refine gx tv22 6 ?_;refine call (Gj_ _) rfl rfl fun w22=>?_;refine gx tv22 4 ?_;refine rt1 rfl rfl (ple ?_);refine congrArg (PV.int .i64) ?_
  (try simp only[bl1] at *)
  unfold U5_
  repeat (first|rw[if_pos (by omega)]|rw[if_neg (by omega)])
  all_goals first|done|rfl|omega
theorem rule_heads (r:Rule) (h:List Pair):Fn Tryz.prog gb 249 [.agg (Rule.pc r), .sl Pair.pc h] (.bool (Iy_ r.all h r.want)):=by
  refine fC Tryz.func249 tv22 Tryz.ntmps249 fun w N H hG=>?_;have r_want_l:r.want.length<=140737488355328:=w.1.2.2.1.1;have h_l:h.length<=140737488355328:=w.2.1.1;refine gm tv22 20 [0] fun B2=>?_;refine loop (ι:=Nat) [0,1,2,10,11,12] [0] (fun k=>[(13, .int .i64 (k:Int))]) (fun k=>[]) (fun k=>k<=r.want.length/\Iy_ r.all h r.want=Iy_ r.all h (r.want.drop k)) (fun k=>r.want.length-k) 0 ⟨rfl,trivial⟩ trivial ?_ ?_
  · exact⟨Nat.zero_le _,rfl⟩
  rintro k hp3;obtain⟨hk1,hk2⟩:=hp3;refine gx tv22 6 ?_;refine cn rfl (fun p5=>?_) fun p25=>?_
  · obtain⟨c6,hc7⟩:=getE (xs:=r.want) (m:=k) (by omega);have c6_w:=Pair.pwf (w.1.2.2.1.2 c6 (List.mem_of_getElem? hc7));refine gx tv22 6 ?_;refine q1 (qidx tv22 k rfl rfl rfl hc7 rfl rfl rfl rfl) rfl fun w8=>?_;refine gm tv22 10 [1] fun B10=>?_;refine call (Vw_ _ _) rfl rfl fun w11=>?_;refine gm tv22 14 [2] fun B13=>?_;refine q1g [26,27] rfl (fun hc=>saeq rfl rfl eqg199 (veq199 ((Ia_ h c6.key).getD Pair.zero) c6)) ⟨(fun hc=>hc),(fun hc=>hc),trivial⟩ rfl rfl rfl fun _=>?_;refine gy tv22 15 ?_;refine cnd rfl (fun h14=>?_) (fun h14=>?_)
    · have h15:=bl h14;have h16:=bl h15;have h17:=br h15;have p18:=dt h17;have h19:=br h14;refine gy tv22 8 ?_;refine next (k+1) rfl rfl ⟨rfl,trivial⟩ trivial ?_ ?_
      · omega
      refine⟨by omega,?_⟩
      rw[hk2,C3_ hc7]
      simp only[Iy_]
      first|(simp only[hasP];simp[*];done)|(unfold hasP;simp_all;done)|(unfold hasP;grind)
    refine gx tv22 6 ?_;refine cnd rfl (fun h20=>?_) (fun h20=>?_)
    · have h21:=bl h20;have h22:=br h20;have p23:=dt h22;refine gx tv22 13 ?_;refine rt1 rfl rfl (ple ?_);refine congrArg PV.bool ?_
      rw[hk2,C3_ hc7]
      simp only[Iy_]
      first|(simp only[hasP];simp[*];done)|(unfold hasP;simp_all;done)|(unfold hasP;grind)
    refine gx tv22 7 ?_;refine cnd rfl (fun h24=>?_) (fun h24=>?_)
    · refine gx tv22 13 ?_;refine rt1 rfl rfl (ple ?_);refine congrArg PV.bool ?_
      rw[hk2,C3_ hc7]
      simp only[Iy_]
      first|(simp only[hasP];simp[*];done)|(unfold hasP;simp_all;done)|(unfold hasP;grind)
    refine gy tv22 8 ?_;refine next (k+1) rfl rfl ⟨rfl,trivial⟩ trivial ?_ ?_
    · omega
    refine⟨by omega,?_⟩
    rw[hk2,C3_ hc7]
    simp only[Iy_]
    first|(simp only[hasP];simp[*];done)|(unfold hasP;simp_all;done)|(unfold hasP;grind)
  refine gx tv22 14 ?_;refine rt1 rfl rfl (ple ?_);refine congrArg PV.bool ?_
  rw[hk2,List.drop_of_length_le (by omega)]
  rfl
theorem Pt_ (r:Rule) (key:Bs) (h:List Pair) (hrk:r.key.length<4294967281:=by first|omega|(simp;done)|decide) (hk:key.length<4294967281:=by first|omega|(simp;done)|decide):Fn Tryz.prog gb 227 [.agg (Rule.pc r), .str key, .sl Pair.pc h] (.bool (Nz_ r key h)):=by
  refine fC Tryz.func227 tv22 Tryz.ntmps227 fun w N H hG=>?_;refine gm tv22 20 [0] fun B2=>?_;refine cn rfl (fun p4=>?_) fun p5=>?_
  · refine gx tv22 12 ?_;refine rt1 rfl rfl (ple ?_);refine congrArg PV.bool ?_
    first|(simp[Nz_, *];done)|(simp[Nz_, *];omega)
  refine gx tv22 6 ?_;refine cn rfl (fun p7=>?_) fun p9=>?_
  · refine gx tv22 5 ?_;refine call (Hw_ _ _) rfl rfl fun w8=>?_;refine gx tv22 6 ?_;refine rt1 rfl rfl (ple ?_);refine congrArg PV.bool ?_
    first|(simp[Nz_, *];done)|(simp[Nz_, *];omega)
  refine gx tv22 6 ?_;refine cn rfl (fun p11=>?_) fun p13=>?_
  · refine gx tv22 4 ?_;refine call (rule_heads _ _) rfl rfl fun w12=>?_;refine gx tv22 6 ?_;refine rt1 rfl rfl (ple ?_);refine congrArg PV.bool ?_
    first|(simp[Nz_, *];done)|(simp[Nz_, *];omega)
  refine gx tv22 9 ?_;refine rt1 rfl rfl (ple ?_);refine congrArg PV.bool ?_
  first|(simp[Nz_, *];done)|(simp[Nz_, *];omega)
theorem match_Same (a:Rule) (b:Rule):Fn Tryz.prog gb 288 [.agg (Rule.pc a), .agg (Rule.pc b)] (.bool (decide (a=b))):=by
  refine fC Tryz.func288 tv22 Tryz.ntmps288 fun w N H hG=>?_;refine gmy tv22 33 [0,1] fun B2=>?_;refine callg rfl (fun hc=>(eq_Pair _ _)) rfl ⟨(fun hc=>hc),(fun hc=>hc),trivial⟩ rfl rfl fun _=>?_;refine gy tv22 5 ?_;refine rt1 rfl rfl (ple ?_);exact congrArg PV.bool (by rw[Bool.eq_iff_iff];first|(simp[Rule.eq_iff,and_assoc];done)|(simp[Rule.eq_iff];grind))
abbrev ty339:TI:=⟨.slc 44,1,24,[.sl ShopR.pc []]⟩
abbrev ty342:TI:=⟨.agg [(0,1),(1,1)],2,48,[.sl ShopR.pc [], .sl BindR.pc []]⟩
def tbv23:Tb:=[(5,ty5),(9,ty9),(44,ty44),(200,Um_),(339,ty339),(342,ty342)]
theorem tv23:tbB Tryz.prog tbv23=true:=by kernel_rfl
theorem eq_Str (a:List Bs) (b:List Bs):Fn Tryz.prog gb 259 [.sl strc a, .sl strc b] (.bool (decide (a=b))):=by
  refine fC Tryz.func259 tv23 Tryz.ntmps259 fun w N H hG=>?_;have a_l:a.length<=140737488355328:=w.1.1;have b_l:b.length<=140737488355328:=w.2.1.1;refine gx tv23 15 ?_;refine cnd rfl (fun h1=>?_) (fun h1=>?_)
  · have h2:=Br_ h1;have p3:=df h2;refine gx tv23 7 ?_;refine rt1 rfl rfl (ple ?_);exact congrArg PV.bool (Yd_ (by assumption)).symm
  have h4:=Bf_ h1;have p5:=dt h4;refine gx tv23 11 ?_;refine loop (ι:=Nat) [0,1,6,7,8,9,10,11,12] [] (fun k=>[(13, .int .i64 (k:Int))]) (fun k=>[]) (fun k=>k<=a.length /\ decide (a=b) = decide (a.drop k=b.drop k)) (fun k=>a.length-k) 0 ⟨rfl,trivial⟩ trivial ?_ ?_
  · exact⟨Nat.zero_le _,rfl⟩
  rintro k hp6;obtain⟨hk1,hk2⟩:=hp6;refine gx tv23 6 ?_;refine cnd rfl (fun h7=>?_) (fun h7=>?_)
  · have p8:=dt h7;refine gx tv23 11 ?_;refine aN [0,1,2,3,4,5] 9 mixd ?_;refine gX tv23 [0,1] 7 ?_;obtain⟨c9,hc10⟩:=getE (xs:=a) (m:=k) (by omega);have c9_l:c9.length<=9223372036854775807:=(w.1.2 c9 (List.mem_of_getElem? hc10)).1;refine vq 2 (qidx tv23 k rfl rfl rfl hc10 rfl rfl rfl rfl) rfl (by kernel_rfl) rfl fun w11=>?_;refine gX tv23 [3,4,5] 3 ?_;obtain⟨c12,hc13⟩:=getE (xs:=b) (m:=k) (by omega);have c12_l:c12.length<=9223372036854775807:=(w.2.1.2 c12 (List.mem_of_getElem? hc13)).1;refine vq 6 (qidx tv23 k rfl rfl rfl hc13 rfl rfl rfl rfl) rfl (by kernel_rfl) rfl fun w14=>?_;refine gX tv23 [7,8] 0 ?_;refine vD ?_;refine gx tv23 1 ?_;refine cnd rfl (fun h15=>?_) (fun h15=>?_)
    · have h16:=Br_ h15;have p17:=df h16;refine gx tv23 11 ?_;refine rt1 rfl rfl (ple ?_);exact congrArg PV.bool (T4_ hk2 (C3_ hc10) (C3_ hc13) (by assumption)).symm
    have h18:=Bf_ h15;have p19:=dt h18;refine gy tv23 7 ?_;refine next (k+1) rfl rfl ⟨rfl,trivial⟩ trivial ?_ ?_
    · omega
    exact⟨by omega,Tw_ hk2 (C3_ hc10) (C3_ hc13) (by assumption)⟩
  have p20:=df h7;refine gx tv23 11 ?_;refine rt1 rfl rfl (ple ?_);exact congrArg PV.bool (Zl_ hk2 (by omega) (by omega)).symm
theorem index_Str (l:List Bs) (x:Bs):Fn Tryz.prog gb 289 [.sl strc l, .str x] (.int .i64 (idxP (fun y=>decide (x=y)) l)):=by
  refine fC Tryz.func289 tv23 Tryz.ntmps289 fun w N H hG=>?_;have l_l:l.length<=140737488355328:=w.1.1;have x_l:x.length<=9223372036854775807:=w.2.1;refine gx tv23 14 ?_;refine loop (ι:=Nat) [0,1,6,7] [] (fun k=>[(8, .int .i64 (k:Int))]) (fun k=>[]) (fun k=>k<=l.length/\idxP (fun y=>decide (x=y)) l=idxF (fun y=>decide (x=y)) k (l.drop k)) (fun k=>l.length-k) 0 ⟨rfl,trivial⟩ trivial ?_ ?_
  · exact⟨Nat.zero_le _,rfl⟩
  rintro k hp1;obtain⟨hik1,hik2⟩:=hp1;refine gx tv23 6 ?_;refine cnd rfl (fun h2=>?_) (fun h2=>?_)
  · have p3:=dt h2;obtain⟨c4,hc5⟩:=getE (xs:=l) (m:=k) (by omega);have c4_l:c4.length<=9223372036854775807:=(w.1.2 c4 (List.mem_of_getElem? hc5)).1;refine gx tv23 15 ?_;refine q1 (qidx tv23 k rfl rfl rfl hc5 rfl rfl rfl rfl) rfl fun w6=>?_;refine gx tv23 4 ?_;refine cnd rfl (fun h7=>?_) (fun h7=>?_)
    · have p8:=dt h7;refine gx tv23 12 ?_;refine rt1 rfl rfl (ple ?_);exact congrArg (PV.int .i64) (N3_ hik2 (C3_ hc5) (by first|assumption|(simp[*];done))).symm
    have p9:=df h7;refine gy tv23 7 ?_;refine next (k+1) rfl rfl ⟨rfl,trivial⟩ trivial ?_ ?_
    · omega
    exact⟨by omega,Lc_ hik2 (C3_ hc5) (by assumption)⟩
  have p10:=df h2;refine gx tv23 11 ?_;refine rt1 rfl rfl (ple ?_);exact congrArg (PV.int .i64) (N5_ hik2 (by omega)).symm
theorem Ws_ (l:List Bs) (x:Bs):Fn Tryz.prog gb 283 [.sl strc l, .str x] (.bool (decide (x∈l))):=by
  refine fC Tryz.func283 tv23 Tryz.ntmps283 fun w N H hG=>?_;refine gx tv23 9 ?_;refine call (index_Str _ _) rfl rfl fun w1=>?_;have :=idxP_r (fun y=>decide (x=y)) l;refine gx tv23 5 ?_;refine rt1 rfl rfl (ple ?_);refine congrArg PV.bool ?_
  rw[Bool.eq_iff_iff,decide_eq_true_eq,decide_eq_true_eq,Pa_]
  simp
theorem shop_check (x:ShopR):Fn Tryz.prog gb 266 [.agg (ShopR.pc x)] (.int .i64 (Qj_ x)):=by
  refine fC Tryz.func266 tv23 Tryz.ntmps266 fun w N H hG=>?_;refine gm tv23 11 [0] fun B2=>?_;refine call (Ck_ _) rfl rfl fun w3=>?_;refine gx tv23 9 ?_;refine cnd rfl (fun h4=>?_) (fun h4=>?_)
  · have h5:=Br_ h4;have p6:=df h5;refine gx tv23 8 ?_;refine rt1 rfl rfl (ple ?_);refine congrArg (PV.int .i64) ?_
    simp only[bl1] at *
    unfold Qj_
    (repeat' split)<;>first|rfl|(exfalso;omega)|(exfalso;simp_all;done)|(exfalso;simp_all;omega)|grind
  have h7:=Bf_ h4;have p8:=dt h7;refine gx tv23 12 ?_;refine cnd rfl (fun h9=>?_) (fun h9=>?_)
  · have p10:=dt h9;refine gx tv23 8 ?_;refine rt1 rfl rfl (ple ?_);refine congrArg (PV.int .i64) ?_
    simp only[bl1] at *
    unfold Qj_
    (repeat' split)<;>first|rfl|(exfalso;omega)|(exfalso;simp_all;done)|(exfalso;simp_all;omega)|grind
  have p11:=df h9;refine gx tv23 8 ?_;refine cnd rfl (fun h12=>?_) (fun h12=>?_)
  · have p13:=dt h12;refine gx tv23 4 ?_;refine call (Ck_ _) rfl rfl fun w14=>?_;refine gx tv23 6 ?_;refine rt1 rfl rfl (ple ?_);refine congrArg (PV.int .i64) ?_
    simp only[bl1] at *
    unfold Qj_
    (repeat' split)<;>first|rfl|(exfalso;omega)|(exfalso;simp_all;done)|(exfalso;simp_all;omega)|grind
  have p15:=df h12;refine gx tv23 8 ?_;refine cnd rfl (fun h16=>?_) (fun h16=>?_)
  · have h17:=Br_ h16;have p18:=df h17;refine gx tv23 8 ?_;refine rt1 rfl rfl (ple ?_);refine congrArg (PV.int .i64) ?_
    simp only[bl1] at *
    unfold Qj_
    (repeat' split)<;>first|rfl|(exfalso;omega)|(exfalso;simp_all;done)|(exfalso;simp_all;omega)|grind
  have h19:=Bf_ h16;have p20:=dt h19;refine gx tv23 9 ?_;refine rt1 rfl rfl (ple ?_);refine congrArg (PV.int .i64) ?_
  simp only[bl1] at *
  unfold Qj_
  (repeat' split)<;>first|rfl|(exfalso;omega)|(exfalso;simp_all;done)|(exfalso;simp_all;omega)|grind
theorem Rj_ (b:BookR) (name:Bs):Fn Tryz.prog gb 267 [.agg (BookR.pc b), .str name] (.tup [.agg (ShopR.pc ((Eu_ b.shops name).getD ShopR.zero)), .bool ((Eu_ b.shops name).isSome)]):=by
  refine fC Tryz.func267 tv23 Tryz.ntmps267 fun w N H hG=>?_;have b_shops_l:b.shops.length<=140737488355328:=w.1.1.1;have b_binds_l:b.binds.length<=140737488355328:=w.1.2.1.1;have name_l:name.length<=9223372036854775807:=w.2.1;refine gm tv23 17 [0,1] fun B2=>?_;refine loop (ι:=Nat) [0,1,2,4,8,9,10] [0,1] (fun k=>[(11, .int .i64 (k:Int))]) (fun k=>[]) (fun k=>k<=b.shops.length/\Eu_ b.shops name=Eu_ (b.shops.drop k) name) (fun k=>b.shops.length-k) 0 ⟨rfl,trivial⟩ trivial ?_ ?_
  · exact⟨Nat.zero_le _,rfl⟩
  rintro k hp4;obtain⟨hk1,hk2⟩:=hp4;refine gx tv23 6 ?_;refine cnd rfl (fun h5=>?_) (fun h5=>?_)
  · have p6:=dt h5;obtain⟨c7,hc8⟩:=getE (xs:=b.shops) (m:=k) (by omega);have c7_w:=ShopR.pwf (w.1.1.2 c7 (List.mem_of_getElem? hc8));refine gx tv23 6 ?_;refine q1 (qidx tv23 k rfl rfl rfl hc8 rfl rfl rfl rfl) rfl fun w9=>?_;refine gm tv23 13 [2] fun B11=>?_;refine cnd rfl (fun h12=>?_) (fun h12=>?_)
    · have p13:=dt h12;refine gm tv23 13 [] fun _=>?_;refine rt2 rfl rfl ?_;refine ple ?_;have e:=shopOf_hit hk2 (C3_ hc8) (by assumption)
      rw[e]
      rfl
    have p15:=df h12;refine gy tv23 7 ?_;refine next (k+1) rfl rfl ⟨rfl,trivial⟩ trivial ?_ ?_
    · (try simp only[]);omega
    exact⟨by omega,Yp_ hk2 (C3_ hc8) (by assumption)⟩
  have p16:=df h5;refine gm tv23 13 [] fun _=>?_;refine rt2 rfl rfl ?_;refine ple ?_
  rw[List.drop_of_length_le (by omega)] at hk2
  rw[hk2]
  rfl
abbrev ty340:TI:=⟨.slc 49,1,24,[.sl BindR.pc []]⟩
def tbv24:Tb:=[(4,ty4),(9,ty9),(47,ty47),(49,ty49),(199,Wr_),(322,ty322),(340,ty340)]
theorem tv24:tbB Tryz.prog tbv24=true:=by kernel_rfl
theorem M7_ (x:BindR) (sort:Int):Fn Tryz.prog gb 269 [.agg (BindR.pc x), .int .u8 sort] (.agg (Rule.pc (It_ x sort))):=by
  refine fC Tryz.func269 tv24 Tryz.ntmps269 fun w N H hG=>?_;refine gm tv24 20 [0,1] fun B2=>?_;refine rt1 rfl rfl (ple ?_)
  rfl
theorem bind_same (x:BindR) (y:BindR):Fn Tryz.prog gb 281 [.agg (BindR.pc x), .agg (BindR.pc y)] (.bool (decide (x=y))):=by
  refine fC Tryz.func281 tv24 Tryz.ntmps281 fun w N H hG=>?_;refine gm tv24 8 [0,1] fun B2=>?_;refine aN [2,3,4,5,6,7] 27 mixd ?_;refine gXy tv24 [0,1,2,3,4,5,6,7,8,9,10,11,12,13,14,15,16,17,18,19,20,22] 5 ?_;refine vE 21 rfl (ecallg rfl (fun hc=>(M7_ _ _)) rfl ⟨(fun hc=>hc),trivial⟩ rfl rfl fun _=>?_);refine vE 23 rfl (ecallg rfl (fun hc=>(M7_ _ _)) rfl ⟨(fun hc=>hc),trivial⟩ rfl rfl fun _=>?_);refine vcallg 24 rfl (by kernel_rfl) rfl (fun hc=>(match_Same _ _)) rfl rfl ⟨(fun hc=>hc),(fun hc=>hc),trivial⟩ rfl fun _=>?_;refine gXy tv24 [25,26] 0 ?_;refine vD ?_;refine gx tv24 2 ?_;refine rt1 rfl rfl (ple ?_);exact congrArg PV.bool (by rw[Bool.eq_iff_iff];first|(simp[BindR.eq_iff,It_,and_assoc];done)|(simp[BindR.eq_iff,It_];grind))
theorem Hy_ (s:List Pair) (hl:s.length<=1000000:=by first|omega|(simp;done)|(simp;omega)):Fn Tryz.prog gb 124 [.sl Pair.pc s] (.sl Pair.pc s):=by
  refine fC Tryz.func124 tv24 Tryz.ntmps124 fun w N H hG=>?_;refine gx tv24 9 ?_;refine ef (lnil tv24 rfl rfl rfl rfl rfl fun b1 hb2=>?_);refine gx tv24 2 ?_;refine cnd rfl (fun h3=>?_) (fun h3=>?_)
  · refine gx tv24 7 ?_;refine rt1 rfl rfl ?_;refine Hu_ ?_;exact hb2 (by assumption)
  refine gx tv24 4 ?_;refine ef (bsl 0 Pair.pc [] tv24 rfl rfl rfl rfl rfl (fun _=>rfl) rfl (by decide) (by decide) rfl fun u4=>?_);refine gx tv24 1 ?_;refine ef (app tv24 s rfl rfl rfl rfl rfl rfl rfl rfl rfl (src_l rfl (fun _=>rfl)) (by first|omega|(simp;omega)) rfl fun u5=>?_);refine gx tv24 3 ?_;refine givec 0 rfl ?_;refine gx tv24 1 ?_;refine rt1 rfl rfl (ple ?_)
  simp
theorem bind_clone (x:BindR) (hl:x.want.length<=1000000:=by first|omega|(simp;done)|decide):Fn Tryz.prog gb 272 [.agg (BindR.pc x)] (.agg (BindR.pc x)):=by
  refine fC Tryz.func272 tv24 Tryz.ntmps272 fun w N H hG=>?_;refine gm tv24 10 [0,1] fun B2=>?_;refine call (Hy_ _) rfl rfl fun w4=>?_;refine gm tv24 11 [] fun _=>?_;refine rt1 rfl rfl (ple ?_)
  rfl
theorem idxF_Bind (s:List BindR) (f:FuncId) (f_fst f_cap:List PV) (f_p:BindR->Bool) (f_h:∀ x,Fn Tryz.prog gb f (argsP.apL f_fst ((.agg (BindR.pc x))::f_cap)) (.bool (f_p x))):Fn Tryz.prog gb 280 [.sl BindR.pc s, .fn f f_fst f_cap] (.int .i64 (idxP f_p s)):=by
  refine fC Tryz.func280 tv24 Tryz.ntmps280 fun w N H hG=>?_;have s_l:s.length<=140737488355328:=w.1.1;refine gx tv24 14 ?_;refine loop (ι:=Nat) [0,1,6,7] [] (fun k=>[(8, .int .i64 (k:Int))]) (fun k=>[]) (fun k=>k<=s.length/\idxP f_p s=idxF f_p k (s.drop k)) (fun k=>s.length-k) 0 ⟨rfl,trivial⟩ trivial ?_ ?_
  · exact⟨Nat.zero_le _,rfl⟩
  rintro k hp1;obtain⟨hk1,hk2⟩:=hp1;refine gx tv24 6 ?_;refine cnd rfl (fun h2=>?_) (fun h2=>?_)
  · have p3:=dt h2;obtain⟨c4,hc5⟩:=getE (xs:=s) (m:=k) (by omega);have c4_w:=BindR.pwf (w.1.2 c4 (List.mem_of_getElem? hc5));refine gx tv24 15 ?_;refine q1 (qidx tv24 k rfl rfl rfl hc5 rfl rfl rfl rfl) rfl fun w6=>?_;refine gx tv24 1 ?_;refine call (f_h c4) rfl rfl fun w7=>?_;refine gx tv24 2 ?_;refine cnd rfl (fun h8=>?_) (fun h8=>?_)
    · refine gx tv24 12 ?_;refine rt1 rfl rfl (ple ?_);exact congrArg (PV.int .i64) (N3_ hk2 (C3_ hc5) (by assumption)).symm
    refine gy tv24 7 ?_;refine next (k+1) rfl rfl ⟨rfl,trivial⟩ trivial ?_ ?_
    · omega
    exact⟨by omega,Lc_ hk2 (C3_ hc5) (by assumption)⟩
  have p9:=df h2;refine gx tv24 11 ?_;refine rt1 rfl rfl (ple ?_);exact congrArg (PV.int .i64) (N5_ hk2 (by omega)).symm
def tbv25:Tb:=[(9,ty9),(51,ty51),(285,We_),(322,ty322)]
theorem tv25:tbB Tryz.prog tbv25=true:=by kernel_rfl
theorem l01_awake:Fn Tryz.prog gb 245 [] (.bool true):=by
  refine fC Tryz.func245 tv25 Tryz.ntmps245 fun w N H hG=>?_;refine gx tv25 8 ?_;refine call (out_Num (⟨[],0⟩:Out) _ _ (by ((try have :=hrl (by assumption));first|omega|(simp[C_,At_,Ad_,numK]<;>omega)))) rfl rfl fun w1=>?_;have nl0:(⟨[],0⟩:Out).s.length=0:=rfl;have :=P_ (⟨[],0⟩:Out) 258 2;refine call (Ay_ _) rfl rfl fun w2=>?_;refine gx tv25 1 ?_;refine so_rt (t:=4) (p':= .bool true) (ple (congrArg PV.bool (show decide (((C_ (⟨[],0⟩:Out) 258 2).s)=[1,2])=true by decide +kernel))) rfl ?_;refine gx tv25 1 ?_;refine ungd rfl rfl ?_;refine gx tv25 1 ?_;refine ungd rfl rfl ?_;refine call (Bl_ (⟨[],0⟩:Out) _) rfl rfl fun w3=>?_;have nl0:(⟨[],0⟩:Out).s.length=0:=rfl;have :=T_ (⟨[],0⟩:Out) [97,98];refine ungd rfl rfl ?_;refine call (Ay_ _) rfl rfl fun w4=>?_;refine ungd rfl rfl ?_;refine gx tv25 1 ?_;refine so_rt (t:=9) (p':= .bool true) (ple (congrArg PV.bool (show decide (((D_ (⟨[],0⟩:Out) [97,98]).s)=[0,2,97,98])=true by decide +kernel))) rfl ?_;refine gx tv25 2 ?_;refine ungd rfl rfl ?_;refine ef (ecallb 0 (Q9_ _) rfl rfl fun w5 b6=>?_);refine ungd rfl rfl ?_;refine ef (ecallm (I7_ (⟨[1,2],0⟩) _) rfl rfl rfl rfl rfl fun w7 w7p=>?_);have :=Da_ (⟨[1,2],0⟩) 2;refine ungd rfl rfl ?_;refine gx tv25 1 ?_;refine so_rt (t:=14) (p':= .bool true) (ple (congrArg PV.bool (show decide ((((S_ (⟨[1,2],0⟩) 2)).1)=258)=true by decide +kernel))) rfl ?_;refine gx tv25 5 ?_;refine rt1 rfl rfl (ple ?_);exact congrArg PV.bool (by first|rfl|decide +kernel)
theorem Vg_:Fn Tryz.prog gb 223 [] (.bool true):=by
  refine fC Tryz.func223 tv25 Tryz.ntmps223 fun w N H hG=>?_;refine gx tv25 7 ?_;refine call l01_awake rfl rfl fun w1=>?_;refine gx tv25 4 ?_;refine rt1 rfl rfl (ple ?_)
  rfl
theorem l04_awake:Fn Tryz.prog gb 247 [] (.bool true):=by
  refine fC Tryz.func247 tv25 Tryz.ntmps247 fun w N H hG=>?_;refine gx tv25 7 ?_;refine call (Hw_ _ _) rfl rfl fun w1=>?_;refine so_rt (t:=1) (p':= .bool true) (ple (congrArg PV.bool (show mt (A5_ [97,46,42,46,35]) (A5_ [97,46,98])=true by decide +kernel))) rfl ?_;refine gx tv25 1 ?_;refine ungd rfl rfl ?_;refine call (Hw_ _ _) rfl rfl fun w2=>?_;refine so_rt (t:=3) (p':= .bool true) (ple (congrArg PV.bool (show mt (A5_ [97,46,42,46,35]) (A5_ [97,46,98,46,99,46,100])=true by decide +kernel))) rfl ?_;refine gx tv25 2 ?_;refine ungd rfl rfl ?_;refine call (Hw_ _ _) rfl rfl fun w3=>?_;refine so_rt (t:=6) (p':= .bool false) (ple (congrArg PV.bool (show mt (A5_ [97,46,42,46,35]) (A5_ [97])=false by decide +kernel))) rfl ?_;refine ungd rfl rfl ?_;refine gx tv25 1 ?_;refine so_rt (t:=7) (p':= .bool true) (ple (congrArg PV.bool (show !false=true by decide +kernel))) rfl ?_;refine gx tv25 2 ?_;refine ungd rfl rfl ?_;refine call (Ck_ _) rfl rfl fun w4=>?_;refine ungd rfl rfl ?_;refine gx tv25 1 ?_;refine so_rt (t:=11) (p':= .bool true) (ple (congrArg PV.bool (show decide ((Cr_ [97,45,49])=0)=true by decide +kernel))) rfl ?_;refine gx tv25 5 ?_;refine rt1 rfl rfl (ple ?_);exact congrArg PV.bool (by first|rfl|decide +kernel)
theorem Pl_:Fn Tryz.prog gb 225 [] (.bool true):=by
  refine fC Tryz.func225 tv25 Tryz.ntmps225 fun w N H hG=>?_;refine gx tv25 7 ?_;refine call l04_awake rfl rfl fun w1=>?_;refine gx tv25 4 ?_;refine rt1 rfl rfl (ple ?_)
  rfl
theorem l09_awake:Fn Tryz.prog gb 190 [] (.bool true):=by
  refine fC Tryz.func190 tv25 Tryz.ntmps190 fun w N H hG=>?_;refine gx tv25 7 ?_;refine call (Fn.le (G2_ []) (B_ Ak_ Ag_) (ple rfl) rfl) rfl rfl fun w1=>?_;have :=D0_ [];refine gx tv25 9 ?_;refine call Vg_ rfl rfl fun w2=>?_;refine gx tv25 1 ?_;refine ungd rfl rfl ?_;refine call Pl_ rfl rfl fun w3=>?_;refine gx tv25 2 ?_;refine ungd rfl rfl ?_;refine gx tv25 1 ?_;refine ungd rfl rfl ?_;refine gx tv25 1 ?_;refine so_rt (t:=13) (p':= .bool true) (ple (congrArg PV.bool (show decide ((Df_ [])=0)=true by decide +kernel))) rfl ?_;refine gx tv25 2 ?_;refine ungd rfl rfl ?_;refine gx tv25 1 ?_;refine ungd rfl rfl ?_;refine gx tv25 1 ?_;refine so_rt (t:=17) (p':= .bool true) (ple (congrArg PV.bool (show decide ((Av_ [])=[0])=true by decide +kernel))) rfl ?_;refine gx tv25 5 ?_;refine rt1 rfl rfl (ple ?_);exact congrArg PV.bool (by first|rfl|decide +kernel)
theorem Pr_:Fn Tryz.prog gb 150 [] (.bool true):=by
  refine fC Tryz.func150 tv25 Tryz.ntmps150 fun w N H hG=>?_;refine gx tv25 7 ?_;refine call l09_awake rfl rfl fun w1=>?_;refine gx tv25 4 ?_;refine rt1 rfl rfl (ple ?_)
  rfl
theorem l10_awake:Fn Tryz.prog gb 188 [] (.bool true):=by
  refine fC Tryz.func188 tv25 Tryz.ntmps188 fun w N H hG=>?_;refine gm tv25 14 [0] fun B2=>?_;refine call Pl_ rfl rfl fun w3=>?_;refine gx tv25 1 ?_;refine ungd rfl rfl ?_;refine call Pr_ rfl rfl fun w4=>?_;refine gx tv25 2 ?_;refine ungd rfl rfl ?_;refine gx tv25 1 ?_;refine ungd rfl rfl ?_;refine call (Sc_ (⟨2,[97,46,35],[],false⟩:Rule)) rfl rfl fun w5=>?_;refine ungd rfl rfl ?_;refine gx tv25 1 ?_;refine so_rt (t:=10) (p':= .bool true) (ple (congrArg PV.bool (show decide ((U5_ (⟨2,[97,46,35],[],false⟩:Rule))=0)=true by decide +kernel))) rfl ?_;refine gx tv25 2 ?_;refine ungd rfl rfl ?_;refine gx tv25 1 ?_;refine ungd rfl rfl ?_;refine call (Fn.le (Pt_ (⟨2,[97,46,35],[],false⟩:Rule) _ []) (B_ (ple rfl) (B_ (ple rfl) (B_ Ak_ Ag_))) (ple rfl) rfl) rfl rfl fun w6=>?_;refine so_rt (t:=14) (p':= .bool true) (ple (congrArg PV.bool (show Nz_ (⟨2,[97,46,35],[],false⟩:Rule) [97,46,98] []=true by decide +kernel))) rfl ?_;refine gx tv25 2 ?_;refine ungd rfl rfl ?_;refine gx tv25 1 ?_;refine ungd rfl rfl ?_;refine call (Fn.le (Pt_ (⟨2,[97,46,35],[],false⟩:Rule) _ []) (B_ (ple rfl) (B_ (ple rfl) (B_ Ak_ Ag_))) (ple rfl) rfl) rfl rfl fun w7=>?_;refine so_rt (t:=18) (p':= .bool false) (ple (congrArg PV.bool (show Nz_ (⟨2,[97,46,35],[],false⟩:Rule) [98] []=false by decide +kernel))) rfl ?_;refine ungd rfl rfl ?_;refine gx tv25 1 ?_;refine so_rt (t:=19) (p':= .bool true) (ple (congrArg PV.bool (show !false=true by decide +kernel))) rfl ?_;refine gx tv25 5 ?_;refine rt1 rfl rfl (ple ?_);exact congrArg PV.bool (by first|rfl|decide +kernel)
theorem Xw_:Fn Tryz.prog gb 148 [] (.bool true):=by
  refine fC Tryz.func148 tv25 Tryz.ntmps148 fun w N H hG=>?_;refine gx tv25 7 ?_;refine call l10_awake rfl rfl fun w1=>?_;refine gx tv25 4 ?_;refine rt1 rfl rfl (ple ?_)
  rfl
theorem l13_awake:Fn Tryz.prog gb 240 [] (.bool true):=by
  refine fC Tryz.func240 tv25 Tryz.ntmps240 fun w N H hG=>?_;refine gx tv25 8 ?_;refine call (Ry_ (⟨0,[97],[],[],[],0,0⟩:Mail)) rfl rfl fun w1=>?_;have :=Jj_ (⟨0,[97],[],[],[],0,0⟩:Mail);refine gx tv25 9 ?_;refine call Pr_ rfl rfl fun w2=>?_;refine gx tv25 1 ?_;refine ungd rfl rfl ?_;refine gx tv25 1 ?_;refine ungd rfl rfl ?_;refine gx tv25 1 ?_;refine so_rt (t:=11) (p':= .bool true) (ple (congrArg PV.bool (show decide ((Gk_ (⟨0,[97],[],[],[],0,0⟩:Mail))=0)=true by decide +kernel))) rfl ?_;refine gx tv25 2 ?_;refine ungd rfl rfl ?_;refine gx tv25 1 ?_;refine ungd rfl rfl ?_;refine gx tv25 1 ?_;refine ungd rfl rfl ?_;refine gx tv25 1 ?_;refine so_rt (t:=16) (p':= .bool true) (ple (congrArg PV.bool (show decide (((Ed_ (⟨0,[97],[],[],[],0,0⟩:Mail)).length:Int)=25)=true by decide +kernel))) rfl ?_;refine gx tv25 5 ?_;refine rt1 rfl rfl (ple ?_);exact congrArg PV.bool (by first|rfl|decide +kernel)
theorem l13_Awake:Fn Tryz.prog gb 213 [] (.bool true):=by
  refine fC Tryz.func213 tv25 Tryz.ntmps213 fun w N H hG=>?_;refine gx tv25 7 ?_;refine call l13_awake rfl rfl fun w1=>?_;refine gx tv25 4 ?_;refine rt1 rfl rfl (ple ?_)
  rfl
def tbv26:Tb:=[(9,ty9),(158,Tl_),(200,Um_)]
theorem tv26:tbB Tryz.prog tbv26=true:=by kernel_rfl
theorem l02_awake:Fn Tryz.prog gb 246 [] (.bool true):=by
  refine fC Tryz.func246 tv26 Tryz.ntmps246 fun w N H hG=>?_;refine gx tv26 7 ?_;refine ef (bsl 0 strc [[49,50,51,52],[53,54,55,56,57]] tv26 rfl rfl rfl rfl rfl (fun _=>rfl) rfl (by decide) (by decide) rfl fun u1=>?_);refine ef (calll 0 rfl (Uc_ _) rfl rfl rfl fun w2=>?_);have :=Lb_ [[49,50,51,52],[53,54,55,56,57]];refine gx tv26 1 ?_;refine so_rt (t:=3) (p':= .bool true) (ple (congrArg PV.bool (show decide ((H2_ [[49,50,51,52],[53,54,55,56,57]])=3421780262)=true by decide +kernel))) rfl ?_;refine gx tv26 1 ?_;refine ungd rfl rfl ?_;refine call (Fn.le (Uc_ []) (B_ Ak_ Ag_) (ple rfl) rfl) rfl rfl fun w3=>?_;have :=Lb_ [];refine ungd rfl rfl ?_;refine gx tv26 1 ?_;refine so_rt (t:=6) (p':= .bool true) (ple (congrArg PV.bool (show decide ((H2_ [])=0)=true by decide +kernel))) rfl ?_;refine gx tv26 5 ?_;refine rt1 rfl rfl (ple ?_);exact congrArg PV.bool (by first|rfl|decide +kernel)
theorem l02_Awake:Fn Tryz.prog gb 224 [] (.bool true):=by
  refine fC Tryz.func224 tv26 Tryz.ntmps224 fun w N H hG=>?_;refine gx tv26 7 ?_;refine call l02_awake rfl rfl fun w1=>?_;refine gx tv26 4 ?_;refine rt1 rfl rfl (ple ?_)
  rfl
theorem l07_awake:Fn Tryz.prog gb 185 [] (.bool true):=by
  refine fC Tryz.func185 tv26 Tryz.ntmps185 fun w N H hG=>?_;refine gx tv26 8 ?_;refine call (Rb_ (⟨1,2,[]⟩:Frame)) rfl rfl fun w1=>?_;refine gx tv26 9 ?_;refine call Vg_ rfl rfl fun w2=>?_;refine gx tv26 1 ?_;refine ungd rfl rfl ?_;refine call l02_Awake rfl rfl fun w3=>?_;refine gx tv26 2 ?_;refine ungd rfl rfl ?_;refine gx tv26 1 ?_;refine ungd rfl rfl ?_;refine gx tv26 1 ?_;refine so_rt (t:=14) (p':= .bool true) (ple (congrArg PV.bool (show decide ((Ow_ (⟨1,2,[]⟩:Frame))=0)=true by decide +kernel))) rfl ?_;refine gx tv26 2 ?_;refine ungd rfl rfl ?_;refine gx tv26 1 ?_;refine ungd rfl rfl ?_;refine gx tv26 1 ?_;refine ungd rfl rfl ?_;refine gx tv26 1 ?_;refine so_rt (t:=19) (p':= .bool true) (ple (congrArg PV.bool (show decide (((Am_ (⟨1,2,[]⟩:Frame)).length:Int)=9)=true by decide +kernel))) rfl ?_;refine gx tv26 2 ?_;refine ungd rfl rfl ?_;refine gx tv26 1 ?_;refine ungd rfl rfl ?_;have :=u8r ((Am_ (⟨1,2,[]⟩:Frame)).getD 8 0);refine q1 (sidx tv26 8 rfl rfl rfl rfl rfl (by first|omega|decide +kernel)) rfl fun w4=>?_;refine ungd rfl rfl ?_;refine gx tv26 1 ?_;refine so_rt (t:=24) (p':= .bool true) (ple (congrArg PV.bool (show decide ((((Am_ (⟨1,2,[]⟩:Frame)).getD 8 0).toNat:Int)=206)=true by decide +kernel))) rfl ?_;refine gx tv26 5 ?_;refine rt1 rfl rfl (ple ?_);exact congrArg PV.bool (by first|rfl|decide +kernel)
theorem V3_:Fn Tryz.prog gb 145 [] (.bool true):=by
  refine fC Tryz.func145 tv26 Tryz.ntmps145 fun w N H hG=>?_;refine gx tv26 7 ?_;refine call l07_awake rfl rfl fun w1=>?_;refine gx tv26 4 ?_;refine rt1 rfl rfl (ple ?_)
  rfl
theorem u8row {z:Int} (h:0<=z/\z<=255):((UInt8.ofNat z.toNat).toNat:Int)=z:=by
  rw[UInt8.toNat_ofNat']
  omega
def tbv27:Tb:=[(5,ty5),(9,ty9),(27,ty27),(291,ty291)]
theorem tv27:tbB Tryz.prog tbv27=true:=by kernel_rfl
theorem r1_Num (n:Int) (bytes:Int):Fn Tryz.prog gb 234 [.int .u64 n, .int .i64 bytes] (.str (numB (numK bytes) n.toNat)):=by
  refine fC Tryz.func234 tv27 Tryz.ntmps234 fun w N H hG=>?_;have n_r:0<=n/\n<=18446744073709551615:=w.1;have bytes_r:-9223372036854775808<=bytes/\bytes<=9223372036854775807:=w.2.1;refine gx tv27 12 ?_;refine cn rfl (fun p2=>?_) fun p6=>?_
  · refine gx tv27 11 ?_;refine cndF rfl (by decide) ?_;refine gx tv27 3 ?_;refine aN [0,1,2,3,4,5] 12 mixd ?_;refine gXy tv27 [0,1,2,3] 8 ?_;refine vC 4 rfl (r1_Num _ _) rfl fun w3=>?_;have :=Ad_ (numK (8-1)) ((n/256)).toNat;have :=Yy_ (8-1);refine gXy tv27 [5,6] 5 ?_;refine vE 7 rfl (eqy (qconv tv27 rfl rfl rfl rfl (rg_u8 (by omega))) rfl fun w4=>?_);refine vE 8 rfl (bsl 0 u8c [UInt8.ofNat ((n%256)).toNat] tv27 rfl rfl rfl rfl (by first|(simp only[List.map_cons,List.map_nil,u8c];(repeat rw[u8row (by omega)]);done)|(simp only[List.map_cons,List.map_nil,u8c];(repeat rw[u8row (by omega)]);rfl)|(simp[u8c];omega)) (fun _=>rfl) rfl (by decide) (by decide) rfl fun u5=>?_)
    refine vE 9 rfl (sb2s tv27 rfl rfl rfl rfl rfl rfl rfl rfl rfl (by simp) rfl ?_);refine gov tv27 [10,11] 0 rfl (by kernel_rfl) rfl rfl ⟨(by first|omega|(simp only[List.length_append,List.length_cons,List.length_nil];omega)|(simp only[List.length_append,List.length_cons,List.length_nil,Ad_];omega)),trivial⟩ ?_;refine vD ?_;refine gx tv27 2 ?_;refine rt1 rfl rfl (ple ?_)
    first
      |(rw[Oa_ n_r.1 (by omega) (by omega)];done)
      |(rw[show numK bytes=numK 8 by unfold numK;omega,Oa_ (b:=8) n_r.1 (by omega) (by omega)];done)
      |(rw[show numK bytes=0 by unfold numK;omega];rfl)
  refine gx tv27 9 ?_;refine cn rfl (fun p8=>?_) fun p9=>?_
  · refine gx tv27 7 ?_;refine rt1 rfl rfl (ple ?_)
    first
      |(rw[Oa_ n_r.1 (by omega) (by omega)];done)
      |(rw[show numK bytes=numK 8 by unfold numK;omega,Oa_ (b:=8) n_r.1 (by omega) (by omega)];done)
      |(rw[show numK bytes=0 by unfold numK;omega];rfl)
  refine gx tv27 3 ?_;refine aN [0,1,2,3,4,5] 12 mixd ?_;refine gXy tv27 [0,1,2,3] 8 ?_;refine vC 4 rfl (r1_Num _ _) rfl fun w10=>?_;have :=Ad_ (numK (bytes-1)) ((n/256)).toNat;have :=Yy_ (bytes-1);refine gXy tv27 [5,6] 5 ?_;refine vE 7 rfl (eqy (qconv tv27 rfl rfl rfl rfl (rg_u8 (by omega))) rfl fun w11=>?_);refine vE 8 rfl (bsl 0 u8c [UInt8.ofNat ((n%256)).toNat] tv27 rfl rfl rfl rfl (by first|(simp only[List.map_cons,List.map_nil,u8c];(repeat rw[u8row (by omega)]);done)|(simp only[List.map_cons,List.map_nil,u8c];(repeat rw[u8row (by omega)]);rfl)|(simp[u8c];omega)) (fun _=>rfl) rfl (by decide) (by decide) rfl fun u12=>?_)
  refine vE 9 rfl (sb2s tv27 rfl rfl rfl rfl rfl rfl rfl rfl rfl (by simp) rfl ?_);refine gov tv27 [10,11] 0 rfl (by kernel_rfl) rfl rfl ⟨(by first|omega|(simp only[List.length_append,List.length_cons,List.length_nil];omega)|(simp only[List.length_append,List.length_cons,List.length_nil,Ad_];omega)),trivial⟩ ?_;refine vD ?_;refine gx tv27 2 ?_;refine rt1 rfl rfl (ple ?_)
  first
    |(rw[Oa_ n_r.1 (by omega) (by omega)];done)
    |(rw[show numK bytes=numK 8 by unfold numK;omega,Oa_ (b:=8) n_r.1 (by omega) (by omega)];done)
    |(rw[show numK bytes=0 by unfold numK;omega];rfl)
termination_by numK bytes
decreasing_by all_goals (unfold numK;omega)
def tbv29:Tb:=[(5,ty5),(9,ty9),(258,ty258)]
theorem tv29:tbB Tryz.prog tbv29=true:=by kernel_rfl
theorem r2_Step (r:Int) (b:Int):Fn Tryz.prog gb 255 [.int .u32 r, .int .u8 b] (.int .u32 (Gl_ r b)):=by
  refine fC Tryz.func255 tv29 Tryz.ntmps255 fun w N H hG=>?_;have r_r:0<=r/\r<=4294967295:=w.1;have b_r:0<=b/\b<=255:=w.2.1;have :=Lj_ ((BitVec.ofInt (IntKind.bits .u32) r ^^^ BitVec.ofInt (IntKind.bits .u32) b).toNat);refine gx tv29 21 ?_;refine loop (ι:=Nat×Int) [1,4,7,8,9,10] [] (fun ⟨k,q⟩=>[(0, .int .u32 q),(5, .int .i64 (k:Int))]) (fun ⟨k,q⟩=>[]) (fun ⟨k,q⟩=>k<=8/\Ov_ (8-k) q=Gl_ r b/\0<=q/\q<=4294967295) (fun ⟨k,q⟩=>8-k) ⟨0,(N7_ r b)⟩ ⟨rfl,rfl,trivial⟩ trivial ?_ ?_
  · have hx:0<=N7_ r b/\N7_ r b<=4294967295:=by unfold N7_;exact Lj_ _
    exact⟨Nat.zero_le _,bit8 r b,hx.1,hx.2⟩
  rintro⟨k,q⟩ hp1;obtain⟨hk1,hk2,hk3,hk4⟩:=hp1;refine gx tv29 7 ?_;refine cn rfl (fun p3=>?_) fun p7=>?_
  · refine gy tv29 24 ?_;refine cn rfl (fun p5=>?_) fun p6=>?_
    · have :=Lj_ ((BitVec.ofInt (IntKind.bits .u32) (q/2) ^^^ BitVec.ofInt (IntKind.bits .u32) 3988292384).toNat);refine gy tv29 12 ?_;refine next ⟨(k+1),(IntKind.wrap .u32 ((BitVec.ofInt (IntKind.bits .u32) (q/2) ^^^ BitVec.ofInt (IntKind.bits .u32) 3988292384).toNat))⟩ rfl rfl ⟨rfl,rfl,trivial⟩ trivial ?_ ?_
      · (try simp only[]);omega
      (try simp only[])
      have e:bit1 q=(IntKind.wrap .u32 ((BitVec.ofInt (IntKind.bits .u32) (q/2) ^^^ BitVec.ofInt (IntKind.bits .u32) 3988292384).toNat)):=by unfold bit1;first|(rw[if_pos (by omega)];rfl)|(rw[if_neg (by omega)];rfl)|rw[if_pos (by omega)]|rw[if_neg (by omega)]
      have hb:=bit1_r (q:=q) ⟨hk3,hk4⟩
      rw[e] at hb
      refine⟨by omega,?_,hb.1,hb.2⟩;have z:∀ n,Ov_ (n+1) q=Ov_ n (bit1 q):=fun _=>rfl
      rw[<- hk2,show 8-k=(8-(k+1))+1 by omega,z,e]
    refine gy tv29 8 ?_;refine next ⟨(k+1),(q/2)⟩ rfl rfl ⟨rfl,rfl,trivial⟩ trivial ?_ ?_
    · (try simp only[]);omega
    (try simp only[])
    have e:bit1 q=(q/2):=by unfold bit1;first|(rw[if_pos (by omega)];rfl)|(rw[if_neg (by omega)];rfl)|rw[if_pos (by omega)]|rw[if_neg (by omega)]
    have hb:=bit1_r (q:=q) ⟨hk3,hk4⟩
    rw[e] at hb
    refine⟨by omega,?_,hb.1,hb.2⟩;have z:∀ n,Ov_ (n+1) q=Ov_ n (bit1 q):=fun _=>rfl
    rw[<- hk2,show 8-k=(8-(k+1))+1 by omega,z,e]
  refine gx tv29 12 ?_;refine rt1 rfl rfl (ple ?_);obtain rfl :k=8:=by omega
  exact congrArg (PV.int .u32) hk2
theorem r2_Sum (s:Bs):Fn Tryz.prog gb 235 [.str s] (.int .u32 (H2_ [s])):=by
  refine fC Tryz.func235 tv29 Tryz.ntmps235 fun w N H hG=>?_;have s_l:s.length<=9223372036854775807:=w.1;refine gx tv29 17 ?_;refine loop (ι:=Nat×Int) [0,2] [] (fun ⟨k,q⟩=>[(3, .int .u32 q),(4, .int .i64 (k:Int))]) (fun ⟨k,q⟩=>[]) (fun ⟨k,q⟩=>k<=s.length/\crcB 4294967295 s=(s.drop k).foldl (fun q c=>Gl_ q c.toNat) q/\0<=q/\q<=4294967295) (fun ⟨k,q⟩=>s.length-k) ⟨0,4294967295⟩ ⟨rfl,rfl,trivial⟩ trivial ?_ ?_
  · exact⟨Nat.zero_le _,rfl,by omega,by omega⟩
  rintro⟨k,q⟩ hp1;obtain⟨hk1,hk2,hk3,hk4⟩:=hp1;refine gx tv29 9 ?_;refine cn rfl (fun p3=>?_) fun p6=>?_
  · have :=u8r (s.getD k 0);refine gx tv29 8 ?_;refine q1 (sidx tv29 k rfl rfl rfl rfl rfl (by omega)) rfl fun w4=>?_;refine call (r2_Step _ _) rfl rfl fun w5=>?_;have :=Wt_ q ((s.getD k 0).toNat:Int);refine gy tv29 9 ?_;refine next ⟨(k+1),(Gl_ q (s.getD k 0).toNat)⟩ rfl rfl ⟨rfl,rfl,trivial⟩ trivial ?_ ?_
    · (try simp only[]);omega
    (try simp only[])
    refine⟨by omega,?_,by omega,by omega⟩
    rw[hk2,Fh_ (k:=k) (by omega),List.foldl_cons]
  have :=Lj_ ((BitVec.ofInt (IntKind.bits .u32) q ^^^ BitVec.ofInt (IntKind.bits .u32) 4294967295).toNat);refine gx tv29 13 ?_;refine rt1 rfl rfl (ple ?_)
  rw[List.drop_of_length_le (by omega),List.foldl_nil] at hk2
  refine congrArg (PV.int .u32) ?_
  unfold H2_
  simp only[List.foldl_cons,List.foldl_nil]
  rw[hk2]
  first|rfl|(unfold N7_;rw[BitVec.xor_comm];done)|(unfold N7_;rw[BitVec.xor_comm];rfl)
theorem cb137:Ah_ Tryz.prog 137:=Z_ Tryz.func137 (by kernel_rfl) (by kernel_rfl)
theorem cb176:Ah_ Tryz.prog 176:=Z_ Tryz.func176 (by kernel_rfl) (by kernel_rfl)
theorem cb279:Ah_ Tryz.prog 279:=Z_ Tryz.func279 (by kernel_rfl) (by kernel_rfl)
theorem cb282:Ah_ Tryz.prog 282:=Z_ Tryz.func282 (by kernel_rfl) (by kernel_rfl)
theorem cb92:Ah_ Tryz.prog 92:=Z_ Tryz.func92 (by kernel_rfl) (by kernel_rfl)
theorem eqg39:Tryz.prog.eqGuardType Tryz.prog.depth 39=false:=by kernel_rfl
theorem veq39 (p q:LentR):∀ (H:Hp) (vs us:List Value),Sims H (LentR.pc p) vs->Sims H (LentR.pc q) us->EqV Tryz.prog 10000 39 (.agg vs.toArray) (.agg us.toArray) (decide (p=q)):=by
  intro H vs us hv hu;obtain⟨_,_,rfl,v0,v_0⟩:=hv.inv_cons;obtain⟨_,_,rfl,v1,v_1⟩:=v_0.inv_cons
  cases v_1.inv_nil
  cases v0.inv_int.1;cases v1.inv_str.1
  obtain⟨_,_,rfl,u0,u_0⟩:=hu.inv_cons;obtain⟨_,_,rfl,u1,u_1⟩:=u_0.inv_cons
  cases u_1.inv_nil
  cases u0.inv_int.1;cases u1.inv_str.1
  exact EqV.to (L9_ Tryz.underlying39 (by kernel_rfl) (If_ (by decide) ag27 rfl rfl (H5_ Tryz.underlying27) (If_ (by decide) ag9 rfl rfl (Hm_ Tryz.underlying9) Ls_))) (by obtain⟨a0,a1⟩:=p;obtain⟨b0,b1⟩:=q;rw[Bool.eq_iff_iff];simp)
abbrev ty25:TI:=⟨.slc 151,1,24,[.sl L_.pc []]⟩
abbrev ty26:TI:=⟨.slc 39,1,24,[.sl LentR.pc []]⟩
abbrev ty28:TI:=⟨.slc 53,1,24,[.sl DeedR.pc []]⟩
abbrev ty39:TI:=⟨.agg [(0,1),(1,1)],2,24,[.int .u64 0, .str []]⟩
abbrev ty151:TI:=⟨.agg [(0,1),(1,1)],2,24,[.int .u64 0, .str []]⟩
abbrev ty187:TI:=⟨.slc 26,1,24,[.sl (slc LentR.pc) []]⟩
abbrev ty242:TI:=⟨.slc 25,1,24,[.sl (slc L_.pc) []]⟩
abbrev ty280:TI:=⟨.slc 28,1,24,[.sl (slc DeedR.pc) []]⟩
abbrev ty371:TI:=⟨.slc 339,1,24,[.sl (slc ShopR.pc) []]⟩
abbrev ty375:TI:=⟨.slc 340,1,24,[.sl (slc BindR.pc) []]⟩
def tbv40:Tb:=[(3,ty3),(25,ty25),(26,ty26),(28,ty28),(39,ty39),(44,ty44),(49,ty49),(53,ty53),(151,ty151),(187,ty187),(242,ty242),(280,ty280),(339,ty339),(340,ty340),(371,ty371),(375,ty375)]
theorem tv40:tbB Tryz.prog tbv40=true:=by kernel_rfl
theorem grow_Deed (n:Int) (hn:0<=n/\n<=100000000:=by omega):Fo Tryz.prog gb 176 [.val (.slice none 0 0), .int .i64 n] (fun u=> .val u) 29 53 DeedR.pc ([]:List DeedR):=by
  refine Ro_ tv40 Tryz.func176 rfl Tryz.ntmps176 rfl cb176 (fun _=>rfl) rfl fun w N H hG=>?_;refine gx tv40 12 ?_;refine cnd rfl (fun h1=>?_) (fun h1=>?_)
  · have p2:=dt h1
    exfalso;omega
  have p3:=df h1;refine gx tv40 7 ?_;refine q1 (qcap0 tv40 rfl rfl rfl) rfl fun w4=>?_;refine gx tv40 1 ?_;refine q1 (qlen0 tv40 rfl rfl rfl) rfl fun w5=>?_;refine gy tv40 11 ?_;refine cn rfl (fun p7=>?_) fun p13=>?_
  · refine gx tv40 3 ?_;refine q1 (qcap0 tv40 rfl rfl rfl) rfl fun w8=>?_;refine q1 (qcut0 tv40 rfl rfl rfl rfl rfl (by omega)) rfl fun w9=>?_;refine gx tv40 1 ?_;refine ef (appz (m:=((n-(0-0))).toNat) 0 tv40 rfl rfl rfl rfl rfl rfl rfl rfl rfl rfl (by omega) (by omega) (by (try simp only[]);omega) rfl rfl fun u10=>?_);refine gx tv40 1 ?_;refine q1 (qlen0 tv40 rfl rfl rfl) rfl fun w11=>?_;refine ef (ocut DeedR.pc tv40 rfl rfl rfl rfl rfl rfl (by omega) rfl fun u12=>?_);refine gx tv40 9 ?_;refine sw_val (t:=4) (i:=0) rfl rfl ?_;refine gx tv40 1 ?_;refine ro1 (j:=0) rfl rfl rfl ?_
    rfl
  refine gx tv40 8 ?_;refine sw_own (t:=4) (k:=29) (e:=53) 0 DeedR.pc rfl rfl ?_;refine sw_val (t:=4) (i:=0) rfl rfl ?_;refine gx tv40 1 ?_;refine ro1 (j:=0) rfl rfl rfl ?_
  rfl
theorem Yq_ (ls:List (List DeedR)) (hl:ls.flatten.length<=100000000:=by first|omega|(simp;done)|(simp;omega)|(simp only[List.flatten_cons,List.flatten_nil,List.length_append,List.append_nil];simp;omega)):Fn Tryz.prog gb 140 [.sl (slc DeedR.pc) ls] (.sl DeedR.pc ls.flatten):=by
  refine fC Tryz.func140 tv40 Tryz.ntmps140 fun w N H hG=>?_;have ls_l:ls.length<=140737488355328:=w.1.1;refine gx tv40 19 ?_;refine loop (ι:=Nat×Int) [0,2,9,10] [] (fun ⟨k,n⟩=>[(3, .int .i64 n),(11, .int .i64 (k:Int))]) (fun ⟨k,n⟩=>[]) (fun ⟨k,n⟩=>k<=ls.length/\n=((ls.take k).flatten.length:Int)) (fun ⟨k,n⟩=>ls.length-k) ⟨0,0⟩ ⟨rfl,rfl,trivial⟩ trivial ?_ ?_
  · exact⟨Nat.zero_le _,by simp⟩
  rintro⟨k,n⟩ hp1;obtain⟨hk1,hk2⟩:=hp1;have hg0:=C2_ ls k;refine gx tv40 6 ?_;refine cn rfl (fun p3=>?_) fun p10=>?_
  · obtain⟨c4,hc5⟩:=getE (xs:=ls) (m:=k) (by omega);refine gx tv40 6 ?_;refine q1 (qidx tv40 k rfl rfl rfl hc5 rfl rfl rfl rfl) rfl fun w6=>?_;refine go tv40 19 rfl rfl ⟨(by have hg:=C2_ ls (k+1);have hfl:=congrArg List.length (Bb_ (by assumption :ls[k]? = some _));simp only[List.length_append] at hfl;omega),trivial⟩ ?_;refine cnd rfl (fun h7=>?_) (fun h7=>?_)
    · have p8:=dt h7
      exfalso;omega
    have p9:=df h7;refine go tv40 7 rfl rfl ⟨(by have hg:=C2_ ls (k+1);have hfl:=congrArg List.length (Bb_ (by assumption :ls[k]? = some _));simp only[List.length_append] at hfl;omega),trivial⟩ ?_;refine next ⟨(k+1),(n+(c4.length:Int))⟩ rfl rfl ⟨rfl,rfl,trivial⟩ trivial ?_ ?_
    · (try simp only[]);omega
    have hf:=Bb_ hc5;have hg:=C2_ ls (k+1);have hfl:=congrArg List.length hf
    simp only[List.length_append] at hfl
    exact⟨by omega,by (try simp only[]);omega⟩
  refine gx tv40 8 ?_;refine ef (ecallo 0 (grow_Deed _) rfl rfl fun u12 w11=>?_);refine gx tv40 12 ?_;refine sw_osl (t:=6) 0 rfl rfl ?_;refine loop (ι:=Nat×(List DeedR)×Value) [0,2,3,9,10,11,12,23,24,25,26] [] (fun ⟨k,out,u_out⟩=>[(6, .osl 0),(27, .int .i64 (k:Int))]) (fun ⟨k,out,u_out⟩=>[(0, .arr u_out 29 53 DeedR.pc out)]) (fun ⟨k,out,u_out⟩=>k<=ls.length/\out=(ls.take k).flatten) (fun ⟨k,out,u_out⟩=>ls.length-k) ⟨0,([]:List DeedR),(u12)⟩ ⟨rfl,rfl,trivial⟩ ⟨rfl,trivial⟩ ?_ ?_
  · exact⟨Nat.zero_le _,by simp⟩
  rintro⟨k,out,u_out⟩ hp13;obtain⟨hk1,hk2⟩:=hp13;refine gx tv40 6 ?_;refine cn rfl (fun p15=>?_) fun p20=>?_
  · obtain⟨c16,hc17⟩:=getE (xs:=ls) (m:=k) (by omega);refine gx tv40 6 ?_;refine q1 (qidx tv40 k rfl rfl rfl hc17 rfl rfl rfl rfl) rfl fun w18=>?_;refine gx tv40 7 ?_;refine ef (app tv40 c16 rfl rfl rfl rfl rfl rfl rfl rfl rfl (src_l rfl (fun _=>rfl)) (by have hg:=C2_ ls (k+1);have hfl:=congrArg List.length (Bb_ (by assumption :ls[k]? = some _));simp only[List.length_append] at hfl;subst hk2;(try simp only[]);omega) rfl fun u19=>?_);refine go tv40 8 rfl rfl ⟨(by have hg:=C2_ ls (k+1);have hfl:=congrArg List.length (Bb_ (by assumption :ls[k]? = some _));simp only[List.length_append] at hfl;omega),trivial⟩ ?_;refine next ⟨(k+1),(out++c16),(u19)⟩ rfl rfl ⟨rfl,rfl,trivial⟩ ⟨rfl,trivial⟩ ?_ ?_
    · (try simp only[]);omega
    exact⟨by omega,by (try simp only[]);rw[Bb_ hc17,hk2]⟩
  refine gx tv40 11 ?_;refine givec 0 rfl ?_;refine gx tv40 1 ?_;refine rt1 rfl rfl (ple ?_)
  rw[hk2,Kn_ (by omega)]
theorem idxF_Deed (s:List DeedR) (f:FuncId) (f_fst f_cap:List PV) (f_p:DeedR->Bool) (f_h:∀ x,Fn Tryz.prog gb f (argsP.apL f_fst ((.agg (DeedR.pc x))::f_cap)) (.bool (f_p x))):Fn Tryz.prog gb 134 [.sl DeedR.pc s, .fn f f_fst f_cap] (.int .i64 (idxP f_p s)):=by
  refine fC Tryz.func134 tv40 Tryz.ntmps134 fun w N H hG=>?_;have s_l:s.length<=140737488355328:=w.1.1;refine gx tv40 14 ?_;refine loop (ι:=Nat) [0,1,6,7] [] (fun k=>[(8, .int .i64 (k:Int))]) (fun k=>[]) (fun k=>k<=s.length/\idxP f_p s=idxF f_p k (s.drop k)) (fun k=>s.length-k) 0 ⟨rfl,trivial⟩ trivial ?_ ?_
  · exact⟨Nat.zero_le _,rfl⟩
  rintro k hp1;obtain⟨hk1,hk2⟩:=hp1;refine gx tv40 6 ?_;refine cnd rfl (fun h2=>?_) (fun h2=>?_)
  · have p3:=dt h2;obtain⟨c4,hc5⟩:=getE (xs:=s) (m:=k) (by omega);have c4_w:=DeedR.pwf (w.1.2 c4 (List.mem_of_getElem? hc5));refine gx tv40 15 ?_;refine q1 (qidx tv40 k rfl rfl rfl hc5 rfl rfl rfl rfl) rfl fun w6=>?_;refine gx tv40 1 ?_;refine call (f_h c4) rfl rfl fun w7=>?_;refine gx tv40 2 ?_;refine cnd rfl (fun h8=>?_) (fun h8=>?_)
    · refine gx tv40 12 ?_;refine rt1 rfl rfl (ple ?_);exact congrArg (PV.int .i64) (N3_ hk2 (C3_ hc5) (by assumption)).symm
    refine gy tv40 7 ?_;refine next (k+1) rfl rfl ⟨rfl,trivial⟩ trivial ?_ ?_
    · omega
    exact⟨by omega,Lc_ hk2 (C3_ hc5) (by assumption)⟩
  have p9:=df h2;refine gx tv40 11 ?_;refine rt1 rfl rfl (ple ?_);exact congrArg (PV.int .i64) (N5_ hk2 (by omega)).symm
theorem cF_Deed (s:List DeedR) (f:FuncId) (f_fst f_cap:List PV) (f_p:DeedR->Bool) (f_h:∀ x,Fn Tryz.prog gb f (argsP.apL f_fst ((.agg (DeedR.pc x))::f_cap)) (.bool (f_p x))):Fn Tryz.prog gb 93 [.sl DeedR.pc s, .fn f f_fst f_cap] (.bool (decide (0<=idxP f_p s))):=by
  refine fC Tryz.func93 tv40 Tryz.ntmps93 fun w N H hG=>?_;refine gx tv40 9 ?_;refine call (idxF_Deed _ f f_fst f_cap f_p f_h) rfl rfl fun w1=>?_;have hix1:=Lm_ f_p s;refine gx tv40 5 ?_;refine rt1 rfl rfl (ple ?_)
  rfl
theorem grow_Taker (n:Int) (hn:0<=n/\n<=100000000:=by omega):Fo Tryz.prog gb 137 [.val (.slice none 0 0), .int .i64 n] (fun u=> .val u) 2 151 L_.pc ([]:List L_):=by
  refine Ro_ tv40 Tryz.func137 rfl Tryz.ntmps137 rfl cb137 (fun _=>rfl) rfl fun w N H hG=>?_;refine gx tv40 12 ?_;refine cnd rfl (fun h1=>?_) (fun h1=>?_)
  · have p2:=dt h1
    exfalso;omega
  have p3:=df h1;refine gx tv40 7 ?_;refine q1 (qcap0 tv40 rfl rfl rfl) rfl fun w4=>?_;refine gx tv40 1 ?_;refine q1 (qlen0 tv40 rfl rfl rfl) rfl fun w5=>?_;refine gy tv40 11 ?_;refine cn rfl (fun p7=>?_) fun p13=>?_
  · refine gx tv40 3 ?_;refine q1 (qcap0 tv40 rfl rfl rfl) rfl fun w8=>?_;refine q1 (qcut0 tv40 rfl rfl rfl rfl rfl (by omega)) rfl fun w9=>?_;refine gx tv40 1 ?_;refine ef (appz (m:=((n-(0-0))).toNat) 0 tv40 rfl rfl rfl rfl rfl rfl rfl rfl rfl rfl (by omega) (by omega) (by (try simp only[]);omega) rfl rfl fun u10=>?_);refine gx tv40 1 ?_;refine q1 (qlen0 tv40 rfl rfl rfl) rfl fun w11=>?_;refine ef (ocut L_.pc tv40 rfl rfl rfl rfl rfl rfl (by omega) rfl fun u12=>?_);refine gx tv40 9 ?_;refine sw_val (t:=4) (i:=0) rfl rfl ?_;refine gx tv40 1 ?_;refine ro1 (j:=0) rfl rfl rfl ?_
    rfl
  refine gx tv40 8 ?_;refine sw_own (t:=4) (k:=2) (e:=151) 0 L_.pc rfl rfl ?_;refine sw_val (t:=4) (i:=0) rfl rfl ?_;refine gx tv40 1 ?_;refine ro1 (j:=0) rfl rfl rfl ?_
  rfl
theorem Of_ (ls:List (List L_)) (hl:ls.flatten.length<=100000000:=by first|omega|(simp;done)|(simp;omega)|(simp only[List.flatten_cons,List.flatten_nil,List.length_append,List.append_nil];simp;omega)):Fn Tryz.prog gb 96 [.sl (slc L_.pc) ls] (.sl L_.pc ls.flatten):=by
  refine fC Tryz.func96 tv40 Tryz.ntmps96 fun w N H hG=>?_;have ls_l:ls.length<=140737488355328:=w.1.1;refine gx tv40 19 ?_;refine loop (ι:=Nat×Int) [0,2,9,10] [] (fun ⟨k,n⟩=>[(3, .int .i64 n),(11, .int .i64 (k:Int))]) (fun ⟨k,n⟩=>[]) (fun ⟨k,n⟩=>k<=ls.length/\n=((ls.take k).flatten.length:Int)) (fun ⟨k,n⟩=>ls.length-k) ⟨0,0⟩ ⟨rfl,rfl,trivial⟩ trivial ?_ ?_
  · exact⟨Nat.zero_le _,by simp⟩
  rintro⟨k,n⟩ hp1;obtain⟨hk1,hk2⟩:=hp1;have hg0:=C2_ ls k;refine gx tv40 6 ?_;refine cn rfl (fun p3=>?_) fun p10=>?_
  · obtain⟨c4,hc5⟩:=getE (xs:=ls) (m:=k) (by omega);refine gx tv40 6 ?_;refine q1 (qidx tv40 k rfl rfl rfl hc5 rfl rfl rfl rfl) rfl fun w6=>?_;refine go tv40 19 rfl rfl ⟨(by have hg:=C2_ ls (k+1);have hfl:=congrArg List.length (Bb_ (by assumption :ls[k]? = some _));simp only[List.length_append] at hfl;omega),trivial⟩ ?_;refine cnd rfl (fun h7=>?_) (fun h7=>?_)
    · have p8:=dt h7
      exfalso;omega
    have p9:=df h7;refine go tv40 7 rfl rfl ⟨(by have hg:=C2_ ls (k+1);have hfl:=congrArg List.length (Bb_ (by assumption :ls[k]? = some _));simp only[List.length_append] at hfl;omega),trivial⟩ ?_;refine next ⟨(k+1),(n+(c4.length:Int))⟩ rfl rfl ⟨rfl,rfl,trivial⟩ trivial ?_ ?_
    · (try simp only[]);omega
    have hf:=Bb_ hc5;have hg:=C2_ ls (k+1);have hfl:=congrArg List.length hf
    simp only[List.length_append] at hfl
    exact⟨by omega,by (try simp only[]);omega⟩
  refine gx tv40 8 ?_;refine ef (ecallo 0 (grow_Taker _) rfl rfl fun u12 w11=>?_);refine gx tv40 12 ?_;refine sw_osl (t:=6) 0 rfl rfl ?_;refine loop (ι:=Nat×(List L_)×Value) [0,2,3,9,10,11,12,23,24,25,26] [] (fun ⟨k,out,u_out⟩=>[(6, .osl 0),(27, .int .i64 (k:Int))]) (fun ⟨k,out,u_out⟩=>[(0, .arr u_out 2 151 L_.pc out)]) (fun ⟨k,out,u_out⟩=>k<=ls.length/\out=(ls.take k).flatten) (fun ⟨k,out,u_out⟩=>ls.length-k) ⟨0,([]:List L_),(u12)⟩ ⟨rfl,rfl,trivial⟩ ⟨rfl,trivial⟩ ?_ ?_
  · exact⟨Nat.zero_le _,by simp⟩
  rintro⟨k,out,u_out⟩ hp13;obtain⟨hk1,hk2⟩:=hp13;refine gx tv40 6 ?_;refine cn rfl (fun p15=>?_) fun p20=>?_
  · obtain⟨c16,hc17⟩:=getE (xs:=ls) (m:=k) (by omega);refine gx tv40 6 ?_;refine q1 (qidx tv40 k rfl rfl rfl hc17 rfl rfl rfl rfl) rfl fun w18=>?_;refine gx tv40 7 ?_;refine ef (app tv40 c16 rfl rfl rfl rfl rfl rfl rfl rfl rfl (src_l rfl (fun _=>rfl)) (by have hg:=C2_ ls (k+1);have hfl:=congrArg List.length (Bb_ (by assumption :ls[k]? = some _));simp only[List.length_append] at hfl;subst hk2;(try simp only[]);omega) rfl fun u19=>?_);refine go tv40 8 rfl rfl ⟨(by have hg:=C2_ ls (k+1);have hfl:=congrArg List.length (Bb_ (by assumption :ls[k]? = some _));simp only[List.length_append] at hfl;omega),trivial⟩ ?_;refine next ⟨(k+1),(out++c16),(u19)⟩ rfl rfl ⟨rfl,rfl,trivial⟩ ⟨rfl,trivial⟩ ?_ ?_
    · (try simp only[]);omega
    exact⟨by omega,by (try simp only[]);rw[Bb_ hc17,hk2]⟩
  refine gx tv40 11 ?_;refine givec 0 rfl ?_;refine gx tv40 1 ?_;refine rt1 rfl rfl (ple ?_)
  rw[hk2,Kn_ (by omega)]
theorem Y8_ (s:List L_) (hl:s.length<=100000000:=by first|omega|(simp;done)|(simp;omega)):Fn Tryz.prog gb 115 [.sl L_.pc s] (.sl L_.pc s):=by
  refine fC Tryz.func115 tv40 Tryz.ntmps115 fun w N H hG=>?_;refine gx tv40 9 ?_;refine ef (lnil tv40 rfl rfl rfl rfl rfl fun b1 hb2=>?_);refine gx tv40 2 ?_;refine cnd rfl (fun h3=>?_) (fun h3=>?_)
  · refine gx tv40 7 ?_;refine rt1 rfl rfl ?_;refine Hu_ ?_;exact hb2 (by assumption)
  refine gx tv40 4 ?_;refine ef (bsl 0 L_.pc [] tv40 rfl rfl rfl rfl rfl (fun _=>rfl) rfl (by decide) (by decide) rfl fun u4=>?_);refine gx tv40 1 ?_;refine ef (app tv40 s rfl rfl rfl rfl rfl rfl rfl rfl rfl (src_l rfl (fun _=>rfl)) (by first|omega|(simp;omega)) rfl fun u5=>?_);refine gx tv40 3 ?_;refine givec 0 rfl ?_;refine gx tv40 1 ?_;refine rt1 rfl rfl (ple ?_)
  simp
theorem idxF_Taker (s:List L_) (f:FuncId) (f_fst f_cap:List PV) (f_p:L_->Bool) (f_h:∀ x,Fn Tryz.prog gb f (argsP.apL f_fst ((.agg (L_.pc x))::f_cap)) (.bool (f_p x))):Fn Tryz.prog gb 135 [.sl L_.pc s, .fn f f_fst f_cap] (.int .i64 (idxP f_p s)):=by
  refine fC Tryz.func135 tv40 Tryz.ntmps135 fun w N H hG=>?_;have s_l:s.length<=140737488355328:=w.1.1;refine gx tv40 14 ?_;refine loop (ι:=Nat) [0,1,6,7] [] (fun k=>[(8, .int .i64 (k:Int))]) (fun k=>[]) (fun k=>k<=s.length/\idxP f_p s=idxF f_p k (s.drop k)) (fun k=>s.length-k) 0 ⟨rfl,trivial⟩ trivial ?_ ?_
  · exact⟨Nat.zero_le _,rfl⟩
  rintro k hp1;obtain⟨hk1,hk2⟩:=hp1;refine gx tv40 6 ?_;refine cnd rfl (fun h2=>?_) (fun h2=>?_)
  · have p3:=dt h2;obtain⟨c4,hc5⟩:=getE (xs:=s) (m:=k) (by omega);refine gx tv40 15 ?_;refine q1 (qidx tv40 k rfl rfl rfl hc5 rfl rfl rfl rfl) rfl fun w6=>?_;refine gx tv40 1 ?_;refine call (f_h c4) rfl rfl fun w7=>?_;refine gx tv40 2 ?_;refine cnd rfl (fun h8=>?_) (fun h8=>?_)
    · refine gx tv40 12 ?_;refine rt1 rfl rfl (ple ?_);exact congrArg (PV.int .i64) (N3_ hk2 (C3_ hc5) (by assumption)).symm
    refine gy tv40 7 ?_;refine next (k+1) rfl rfl ⟨rfl,trivial⟩ trivial ?_ ?_
    · omega
    exact⟨by omega,Lc_ hk2 (C3_ hc5) (by assumption)⟩
  have p9:=df h2;refine gx tv40 11 ?_;refine rt1 rfl rfl (ple ?_);exact congrArg (PV.int .i64) (N5_ hk2 (by omega)).symm
theorem grow_Lent (n:Int) (hn:0<=n/\n<=100000000:=by omega):Fo Tryz.prog gb 92 [.val (.slice none 0 0), .int .i64 n] (fun u=> .val u) 2 39 LentR.pc ([]:List LentR):=by
  refine Ro_ tv40 Tryz.func92 rfl Tryz.ntmps92 rfl cb92 (fun _=>rfl) rfl fun w N H hG=>?_;refine gx tv40 12 ?_;refine cnd rfl (fun h1=>?_) (fun h1=>?_)
  · have p2:=dt h1
    exfalso;omega
  have p3:=df h1;refine gx tv40 7 ?_;refine q1 (qcap0 tv40 rfl rfl rfl) rfl fun w4=>?_;refine gx tv40 1 ?_;refine q1 (qlen0 tv40 rfl rfl rfl) rfl fun w5=>?_;refine gy tv40 11 ?_;refine cn rfl (fun p7=>?_) fun p13=>?_
  · refine gx tv40 3 ?_;refine q1 (qcap0 tv40 rfl rfl rfl) rfl fun w8=>?_;refine q1 (qcut0 tv40 rfl rfl rfl rfl rfl (by omega)) rfl fun w9=>?_;refine gx tv40 1 ?_;refine ef (appz (m:=((n-(0-0))).toNat) 0 tv40 rfl rfl rfl rfl rfl rfl rfl rfl rfl rfl (by omega) (by omega) (by (try simp only[]);omega) rfl rfl fun u10=>?_);refine gx tv40 1 ?_;refine q1 (qlen0 tv40 rfl rfl rfl) rfl fun w11=>?_;refine ef (ocut LentR.pc tv40 rfl rfl rfl rfl rfl rfl (by omega) rfl fun u12=>?_);refine gx tv40 9 ?_;refine sw_val (t:=4) (i:=0) rfl rfl ?_;refine gx tv40 1 ?_;refine ro1 (j:=0) rfl rfl rfl ?_
    rfl
  refine gx tv40 8 ?_;refine sw_own (t:=4) (k:=2) (e:=39) 0 LentR.pc rfl rfl ?_;refine sw_val (t:=4) (i:=0) rfl rfl ?_;refine gx tv40 1 ?_;refine ro1 (j:=0) rfl rfl rfl ?_
  rfl
theorem Qv_ (ls:List (List LentR)) (hl:ls.flatten.length<=100000000:=by first|omega|(simp;done)|(simp;omega)|(simp only[List.flatten_cons,List.flatten_nil,List.length_append,List.append_nil];simp;omega)):Fn Tryz.prog gb 40 [.sl (slc LentR.pc) ls] (.sl LentR.pc ls.flatten):=by
  refine fC Tryz.func40 tv40 Tryz.ntmps40 fun w N H hG=>?_;have ls_l:ls.length<=140737488355328:=w.1.1;refine gx tv40 19 ?_;refine loop (ι:=Nat×Int) [0,2,9,10] [] (fun ⟨k,n⟩=>[(3, .int .i64 n),(11, .int .i64 (k:Int))]) (fun ⟨k,n⟩=>[]) (fun ⟨k,n⟩=>k<=ls.length/\n=((ls.take k).flatten.length:Int)) (fun ⟨k,n⟩=>ls.length-k) ⟨0,0⟩ ⟨rfl,rfl,trivial⟩ trivial ?_ ?_
  · exact⟨Nat.zero_le _,by simp⟩
  rintro⟨k,n⟩ hp1;obtain⟨hk1,hk2⟩:=hp1;have hg0:=C2_ ls k;refine gx tv40 6 ?_;refine cn rfl (fun p3=>?_) fun p10=>?_
  · obtain⟨c4,hc5⟩:=getE (xs:=ls) (m:=k) (by omega);refine gx tv40 6 ?_;refine q1 (qidx tv40 k rfl rfl rfl hc5 rfl rfl rfl rfl) rfl fun w6=>?_;refine go tv40 19 rfl rfl ⟨(by have hg:=C2_ ls (k+1);have hfl:=congrArg List.length (Bb_ (by assumption :ls[k]? = some _));simp only[List.length_append] at hfl;omega),trivial⟩ ?_;refine cnd rfl (fun h7=>?_) (fun h7=>?_)
    · have p8:=dt h7
      exfalso;omega
    have p9:=df h7;refine go tv40 7 rfl rfl ⟨(by have hg:=C2_ ls (k+1);have hfl:=congrArg List.length (Bb_ (by assumption :ls[k]? = some _));simp only[List.length_append] at hfl;omega),trivial⟩ ?_;refine next ⟨(k+1),(n+(c4.length:Int))⟩ rfl rfl ⟨rfl,rfl,trivial⟩ trivial ?_ ?_
    · (try simp only[]);omega
    have hf:=Bb_ hc5;have hg:=C2_ ls (k+1);have hfl:=congrArg List.length hf
    simp only[List.length_append] at hfl
    exact⟨by omega,by (try simp only[]);omega⟩
  refine gx tv40 8 ?_;refine ef (ecallo 0 (grow_Lent _) rfl rfl fun u12 w11=>?_);refine gx tv40 12 ?_;refine sw_osl (t:=6) 0 rfl rfl ?_;refine loop (ι:=Nat×(List LentR)×Value) [0,2,3,9,10,11,12,23,24,25,26] [] (fun ⟨k,out,u_out⟩=>[(6, .osl 0),(27, .int .i64 (k:Int))]) (fun ⟨k,out,u_out⟩=>[(0, .arr u_out 2 39 LentR.pc out)]) (fun ⟨k,out,u_out⟩=>k<=ls.length/\out=(ls.take k).flatten) (fun ⟨k,out,u_out⟩=>ls.length-k) ⟨0,([]:List LentR),(u12)⟩ ⟨rfl,rfl,trivial⟩ ⟨rfl,trivial⟩ ?_ ?_
  · exact⟨Nat.zero_le _,by simp⟩
  rintro⟨k,out,u_out⟩ hp13;obtain⟨hk1,hk2⟩:=hp13;refine gx tv40 6 ?_;refine cn rfl (fun p15=>?_) fun p20=>?_
  · obtain⟨c16,hc17⟩:=getE (xs:=ls) (m:=k) (by omega);refine gx tv40 6 ?_;refine q1 (qidx tv40 k rfl rfl rfl hc17 rfl rfl rfl rfl) rfl fun w18=>?_;refine gx tv40 7 ?_;refine ef (app tv40 c16 rfl rfl rfl rfl rfl rfl rfl rfl rfl (src_l rfl (fun _=>rfl)) (by have hg:=C2_ ls (k+1);have hfl:=congrArg List.length (Bb_ (by assumption :ls[k]? = some _));simp only[List.length_append] at hfl;subst hk2;(try simp only[]);omega) rfl fun u19=>?_);refine go tv40 8 rfl rfl ⟨(by have hg:=C2_ ls (k+1);have hfl:=congrArg List.length (Bb_ (by assumption :ls[k]? = some _));simp only[List.length_append] at hfl;omega),trivial⟩ ?_;refine next ⟨(k+1),(out++c16),(u19)⟩ rfl rfl ⟨rfl,rfl,trivial⟩ ⟨rfl,trivial⟩ ?_ ?_
    · (try simp only[]);omega
    exact⟨by omega,by (try simp only[]);rw[Bb_ hc17,hk2]⟩
  refine gx tv40 11 ?_;refine givec 0 rfl ?_;refine gx tv40 1 ?_;refine rt1 rfl rfl (ple ?_)
  rw[hk2,Kn_ (by omega)]
theorem clone_Lent (s:List LentR) (hl:s.length<=100000000:=by first|omega|(simp;done)|(simp;omega)):Fn Tryz.prog gb 60 [.sl LentR.pc s] (.sl LentR.pc s):=by
  refine fC Tryz.func60 tv40 Tryz.ntmps60 fun w N H hG=>?_;refine gx tv40 9 ?_;refine ef (lnil tv40 rfl rfl rfl rfl rfl fun b1 hb2=>?_);refine gx tv40 2 ?_;refine cnd rfl (fun h3=>?_) (fun h3=>?_)
  · refine gx tv40 7 ?_;refine rt1 rfl rfl ?_;refine Hu_ ?_;exact hb2 (by assumption)
  refine gx tv40 4 ?_;refine ef (bsl 0 LentR.pc [] tv40 rfl rfl rfl rfl rfl (fun _=>rfl) rfl (by decide) (by decide) rfl fun u4=>?_);refine gx tv40 1 ?_;refine ef (app tv40 s rfl rfl rfl rfl rfl rfl rfl rfl rfl (src_l rfl (fun _=>rfl)) (by first|omega|(simp;omega)) rfl fun u5=>?_);refine gx tv40 3 ?_;refine givec 0 rfl ?_;refine gx tv40 1 ?_;refine rt1 rfl rfl (ple ?_)
  simp
theorem index_Lent (l:List LentR) (x:LentR):Fn Tryz.prog gb 42 [.sl LentR.pc l, .agg (LentR.pc x)] (.int .i64 (idxP (fun y=>decide (x=y)) l)):=by
  refine fC Tryz.func42 tv40 Tryz.ntmps42 fun w N H hG=>?_;have l_l:l.length<=140737488355328:=w.1.1;refine gm tv40 15 [0] fun B2=>?_;refine loop (ι:=Nat) [0,1,3,6,7] [0] (fun k=>[(8, .int .i64 (k:Int))]) (fun k=>[]) (fun k=>k<=l.length/\idxP (fun y=>decide (x=y)) l=idxF (fun y=>decide (x=y)) k (l.drop k)) (fun k=>l.length-k) 0 ⟨rfl,trivial⟩ trivial ?_ ?_
  · exact⟨Nat.zero_le _,rfl⟩
  rintro k hp3;obtain⟨hik1,hik2⟩:=hp3;refine gx tv40 6 ?_;refine cn rfl (fun p5=>?_) fun p13=>?_
  · refine gx tv40 11 ?_;refine aN [1,2,3,4,5,6] 6 mixd ?_;refine gX tv40 [0,1,2] 3 ?_;obtain⟨c6,hc7⟩:=getE (xs:=l) (m:=k) (by omega);refine vq 3 (qidx tv40 k rfl rfl rfl hc7 rfl rfl rfl rfl) rfl (by kernel_rfl) rfl fun w8=>?_;refine gX tv40 [4] 1 ?_;refine vq 5 (saeq rfl rfl eqg39 (veq39 x c6)) rfl (by kernel_rfl) rfl fun w9=>?_;refine vD ?_;refine gx tv40 1 ?_;refine cn rfl (fun p11=>?_) fun p12=>?_
    · refine gx tv40 12 ?_;refine rt1 rfl rfl (ple ?_);exact congrArg (PV.int .i64) (N3_ hik2 (C3_ hc7) (by first|assumption|(simp[*];done))).symm
    refine gy tv40 7 ?_;refine next (k+1) rfl rfl ⟨rfl,trivial⟩ trivial ?_ ?_
    · omega
    exact⟨by omega,Lc_ hik2 (C3_ hc7) (by first|assumption|(simp[*];done)|grind)⟩
  refine gx tv40 11 ?_;refine rt1 rfl rfl (ple ?_);exact congrArg (PV.int .i64) (N5_ hik2 (by omega)).symm
theorem grow_Shop (n:Int) (hn:0<=n/\n<=100000000:=by omega):Fo Tryz.prog gb 279 [.val (.slice none 0 0), .int .i64 n] (fun u=> .val u) 3 44 ShopR.pc ([]:List ShopR):=by
  refine Ro_ tv40 Tryz.func279 rfl Tryz.ntmps279 rfl cb279 (fun _=>rfl) rfl fun w N H hG=>?_;refine gx tv40 12 ?_;refine cnd rfl (fun h1=>?_) (fun h1=>?_)
  · have p2:=dt h1
    exfalso;omega
  have p3:=df h1;refine gx tv40 7 ?_;refine q1 (qcap0 tv40 rfl rfl rfl) rfl fun w4=>?_;refine gx tv40 1 ?_;refine q1 (qlen0 tv40 rfl rfl rfl) rfl fun w5=>?_;refine gy tv40 11 ?_;refine cn rfl (fun p7=>?_) fun p13=>?_
  · refine gx tv40 3 ?_;refine q1 (qcap0 tv40 rfl rfl rfl) rfl fun w8=>?_;refine q1 (qcut0 tv40 rfl rfl rfl rfl rfl (by omega)) rfl fun w9=>?_;refine gx tv40 1 ?_;refine ef (appz (m:=((n-(0-0))).toNat) 0 tv40 rfl rfl rfl rfl rfl rfl rfl rfl rfl rfl (by omega) (by omega) (by (try simp only[]);omega) rfl rfl fun u10=>?_);refine gx tv40 1 ?_;refine q1 (qlen0 tv40 rfl rfl rfl) rfl fun w11=>?_;refine ef (ocut ShopR.pc tv40 rfl rfl rfl rfl rfl rfl (by omega) rfl fun u12=>?_);refine gx tv40 9 ?_;refine sw_val (t:=4) (i:=0) rfl rfl ?_;refine gx tv40 1 ?_;refine ro1 (j:=0) rfl rfl rfl ?_
    rfl
  refine gx tv40 8 ?_;refine sw_own (t:=4) (k:=3) (e:=44) 0 ShopR.pc rfl rfl ?_;refine sw_val (t:=4) (i:=0) rfl rfl ?_;refine gx tv40 1 ?_;refine ro1 (j:=0) rfl rfl rfl ?_
  rfl
theorem Y2_ (ls:List (List ShopR)) (hl:ls.flatten.length<=100000000:=by first|omega|(simp;done)|(simp;omega)|(simp only[List.flatten_cons,List.flatten_nil,List.length_append,List.append_nil];simp;omega)):Fn Tryz.prog gb 268 [.sl (slc ShopR.pc) ls] (.sl ShopR.pc ls.flatten):=by
  refine fC Tryz.func268 tv40 Tryz.ntmps268 fun w N H hG=>?_;have ls_l:ls.length<=140737488355328:=w.1.1;refine gx tv40 19 ?_;refine loop (ι:=Nat×Int) [0,2,9,10] [] (fun ⟨k,n⟩=>[(3, .int .i64 n),(11, .int .i64 (k:Int))]) (fun ⟨k,n⟩=>[]) (fun ⟨k,n⟩=>k<=ls.length/\n=((ls.take k).flatten.length:Int)) (fun ⟨k,n⟩=>ls.length-k) ⟨0,0⟩ ⟨rfl,rfl,trivial⟩ trivial ?_ ?_
  · exact⟨Nat.zero_le _,by simp⟩
  rintro⟨k,n⟩ hp1;obtain⟨hk1,hk2⟩:=hp1;have hg0:=C2_ ls k;refine gx tv40 6 ?_;refine cn rfl (fun p3=>?_) fun p10=>?_
  · obtain⟨c4,hc5⟩:=getE (xs:=ls) (m:=k) (by omega);refine gx tv40 6 ?_;refine q1 (qidx tv40 k rfl rfl rfl hc5 rfl rfl rfl rfl) rfl fun w6=>?_;refine go tv40 19 rfl rfl ⟨(by have hg:=C2_ ls (k+1);have hfl:=congrArg List.length (Bb_ (by assumption :ls[k]? = some _));simp only[List.length_append] at hfl;omega),trivial⟩ ?_;refine cnd rfl (fun h7=>?_) (fun h7=>?_)
    · have p8:=dt h7
      exfalso;omega
    have p9:=df h7;refine go tv40 7 rfl rfl ⟨(by have hg:=C2_ ls (k+1);have hfl:=congrArg List.length (Bb_ (by assumption :ls[k]? = some _));simp only[List.length_append] at hfl;omega),trivial⟩ ?_;refine next ⟨(k+1),(n+(c4.length:Int))⟩ rfl rfl ⟨rfl,rfl,trivial⟩ trivial ?_ ?_
    · (try simp only[]);omega
    have hf:=Bb_ hc5;have hg:=C2_ ls (k+1);have hfl:=congrArg List.length hf
    simp only[List.length_append] at hfl
    exact⟨by omega,by (try simp only[]);omega⟩
  refine gx tv40 8 ?_;refine ef (ecallo 0 (grow_Shop _) rfl rfl fun u12 w11=>?_);refine gx tv40 12 ?_;refine sw_osl (t:=6) 0 rfl rfl ?_;refine loop (ι:=Nat×(List ShopR)×Value) [0,2,3,9,10,11,12,23,24,25,26] [] (fun ⟨k,out,u_out⟩=>[(6, .osl 0),(27, .int .i64 (k:Int))]) (fun ⟨k,out,u_out⟩=>[(0, .arr u_out 3 44 ShopR.pc out)]) (fun ⟨k,out,u_out⟩=>k<=ls.length/\out=(ls.take k).flatten) (fun ⟨k,out,u_out⟩=>ls.length-k) ⟨0,([]:List ShopR),(u12)⟩ ⟨rfl,rfl,trivial⟩ ⟨rfl,trivial⟩ ?_ ?_
  · exact⟨Nat.zero_le _,by simp⟩
  rintro⟨k,out,u_out⟩ hp13;obtain⟨hk1,hk2⟩:=hp13;refine gx tv40 6 ?_;refine cn rfl (fun p15=>?_) fun p20=>?_
  · obtain⟨c16,hc17⟩:=getE (xs:=ls) (m:=k) (by omega);refine gx tv40 6 ?_;refine q1 (qidx tv40 k rfl rfl rfl hc17 rfl rfl rfl rfl) rfl fun w18=>?_;refine gx tv40 7 ?_;refine ef (app tv40 c16 rfl rfl rfl rfl rfl rfl rfl rfl rfl (src_l rfl (fun _=>rfl)) (by have hg:=C2_ ls (k+1);have hfl:=congrArg List.length (Bb_ (by assumption :ls[k]? = some _));simp only[List.length_append] at hfl;subst hk2;(try simp only[]);omega) rfl fun u19=>?_);refine go tv40 8 rfl rfl ⟨(by have hg:=C2_ ls (k+1);have hfl:=congrArg List.length (Bb_ (by assumption :ls[k]? = some _));simp only[List.length_append] at hfl;omega),trivial⟩ ?_;refine next ⟨(k+1),(out++c16),(u19)⟩ rfl rfl ⟨rfl,rfl,trivial⟩ ⟨rfl,trivial⟩ ?_ ?_
    · (try simp only[]);omega
    exact⟨by omega,by (try simp only[]);rw[Bb_ hc17,hk2]⟩
  refine gx tv40 11 ?_;refine givec 0 rfl ?_;refine gx tv40 1 ?_;refine rt1 rfl rfl (ple ?_)
  rw[hk2,Kn_ (by omega)]
theorem grow_Bind (n:Int) (hn:0<=n/\n<=100000000:=by omega):Fo Tryz.prog gb 282 [.val (.slice none 0 0), .int .i64 n] (fun u=> .val u) 6 49 BindR.pc ([]:List BindR):=by
  refine Ro_ tv40 Tryz.func282 rfl Tryz.ntmps282 rfl cb282 (fun _=>rfl) rfl fun w N H hG=>?_;refine gx tv40 12 ?_;refine cnd rfl (fun h1=>?_) (fun h1=>?_)
  · have p2:=dt h1
    exfalso;omega
  have p3:=df h1;refine gx tv40 7 ?_;refine q1 (qcap0 tv40 rfl rfl rfl) rfl fun w4=>?_;refine gx tv40 1 ?_;refine q1 (qlen0 tv40 rfl rfl rfl) rfl fun w5=>?_;refine gy tv40 11 ?_;refine cn rfl (fun p7=>?_) fun p13=>?_
  · refine gx tv40 3 ?_;refine q1 (qcap0 tv40 rfl rfl rfl) rfl fun w8=>?_;refine q1 (qcut0 tv40 rfl rfl rfl rfl rfl (by omega)) rfl fun w9=>?_;refine gx tv40 1 ?_;refine ef (appz (m:=((n-(0-0))).toNat) 0 tv40 rfl rfl rfl rfl rfl rfl rfl rfl rfl rfl (by omega) (by omega) (by (try simp only[]);omega) rfl rfl fun u10=>?_);refine gx tv40 1 ?_;refine q1 (qlen0 tv40 rfl rfl rfl) rfl fun w11=>?_;refine ef (ocut BindR.pc tv40 rfl rfl rfl rfl rfl rfl (by omega) rfl fun u12=>?_);refine gx tv40 9 ?_;refine sw_val (t:=4) (i:=0) rfl rfl ?_;refine gx tv40 1 ?_;refine ro1 (j:=0) rfl rfl rfl ?_
    rfl
  refine gx tv40 8 ?_;refine sw_own (t:=4) (k:=6) (e:=49) 0 BindR.pc rfl rfl ?_;refine sw_val (t:=4) (i:=0) rfl rfl ?_;refine gx tv40 1 ?_;refine ro1 (j:=0) rfl rfl rfl ?_
  rfl
theorem Y5_ (ls:List (List BindR)) (hl:ls.flatten.length<=100000000:=by first|omega|(simp;done)|(simp;omega)|(simp only[List.flatten_cons,List.flatten_nil,List.length_append,List.append_nil];simp;omega)):Fn Tryz.prog gb 271 [.sl (slc BindR.pc) ls] (.sl BindR.pc ls.flatten):=by
  refine fC Tryz.func271 tv40 Tryz.ntmps271 fun w N H hG=>?_;have ls_l:ls.length<=140737488355328:=w.1.1;refine gx tv40 19 ?_;refine loop (ι:=Nat×Int) [0,2,9,10] [] (fun ⟨k,n⟩=>[(3, .int .i64 n),(11, .int .i64 (k:Int))]) (fun ⟨k,n⟩=>[]) (fun ⟨k,n⟩=>k<=ls.length/\n=((ls.take k).flatten.length:Int)) (fun ⟨k,n⟩=>ls.length-k) ⟨0,0⟩ ⟨rfl,rfl,trivial⟩ trivial ?_ ?_
  · exact⟨Nat.zero_le _,by simp⟩
  rintro⟨k,n⟩ hp1;obtain⟨hk1,hk2⟩:=hp1;have hg0:=C2_ ls k;refine gx tv40 6 ?_;refine cn rfl (fun p3=>?_) fun p10=>?_
  · obtain⟨c4,hc5⟩:=getE (xs:=ls) (m:=k) (by omega);refine gx tv40 6 ?_;refine q1 (qidx tv40 k rfl rfl rfl hc5 rfl rfl rfl rfl) rfl fun w6=>?_;refine go tv40 19 rfl rfl ⟨(by have hg:=C2_ ls (k+1);have hfl:=congrArg List.length (Bb_ (by assumption :ls[k]? = some _));simp only[List.length_append] at hfl;omega),trivial⟩ ?_;refine cnd rfl (fun h7=>?_) (fun h7=>?_)
    · have p8:=dt h7
      exfalso;omega
    have p9:=df h7;refine go tv40 7 rfl rfl ⟨(by have hg:=C2_ ls (k+1);have hfl:=congrArg List.length (Bb_ (by assumption :ls[k]? = some _));simp only[List.length_append] at hfl;omega),trivial⟩ ?_;refine next ⟨(k+1),(n+(c4.length:Int))⟩ rfl rfl ⟨rfl,rfl,trivial⟩ trivial ?_ ?_
    · (try simp only[]);omega
    have hf:=Bb_ hc5;have hg:=C2_ ls (k+1);have hfl:=congrArg List.length hf
    simp only[List.length_append] at hfl
    exact⟨by omega,by (try simp only[]);omega⟩
  refine gx tv40 8 ?_;refine ef (ecallo 0 (grow_Bind _) rfl rfl fun u12 w11=>?_);refine gx tv40 12 ?_;refine sw_osl (t:=6) 0 rfl rfl ?_;refine loop (ι:=Nat×(List BindR)×Value) [0,2,3,9,10,11,12,23,24,25,26] [] (fun ⟨k,out,u_out⟩=>[(6, .osl 0),(27, .int .i64 (k:Int))]) (fun ⟨k,out,u_out⟩=>[(0, .arr u_out 6 49 BindR.pc out)]) (fun ⟨k,out,u_out⟩=>k<=ls.length/\out=(ls.take k).flatten) (fun ⟨k,out,u_out⟩=>ls.length-k) ⟨0,([]:List BindR),(u12)⟩ ⟨rfl,rfl,trivial⟩ ⟨rfl,trivial⟩ ?_ ?_
  · exact⟨Nat.zero_le _,by simp⟩
  rintro⟨k,out,u_out⟩ hp13;obtain⟨hk1,hk2⟩:=hp13;refine gx tv40 6 ?_;refine cn rfl (fun p15=>?_) fun p20=>?_
  · obtain⟨c16,hc17⟩:=getE (xs:=ls) (m:=k) (by omega);refine gx tv40 6 ?_;refine q1 (qidx tv40 k rfl rfl rfl hc17 rfl rfl rfl rfl) rfl fun w18=>?_;refine gx tv40 7 ?_;refine ef (app tv40 c16 rfl rfl rfl rfl rfl rfl rfl rfl rfl (src_l rfl (fun _=>rfl)) (by have hg:=C2_ ls (k+1);have hfl:=congrArg List.length (Bb_ (by assumption :ls[k]? = some _));simp only[List.length_append] at hfl;subst hk2;(try simp only[]);omega) rfl fun u19=>?_);refine go tv40 8 rfl rfl ⟨(by have hg:=C2_ ls (k+1);have hfl:=congrArg List.length (Bb_ (by assumption :ls[k]? = some _));simp only[List.length_append] at hfl;omega),trivial⟩ ?_;refine next ⟨(k+1),(out++c16),(u19)⟩ rfl rfl ⟨rfl,rfl,trivial⟩ ⟨rfl,trivial⟩ ?_ ?_
    · (try simp only[]);omega
    exact⟨by omega,by (try simp only[]);rw[Bb_ hc17,hk2]⟩
  refine gx tv40 11 ?_;refine givec 0 rfl ?_;refine gx tv40 1 ?_;refine rt1 rfl rfl (ple ?_)
  rw[hk2,Kn_ (by omega)]
abbrev ty30:TI:=⟨.agg [(0,1)],1,24,[.sl DeedR.pc []]⟩
abbrev ty32:TI:=⟨.agg [(0,1),(1,1),(2,1),(3,1),(4,1),(5,1),(6,1)],7,96,[.int .i64 0, .sl L_.pc [], .sl LentR.pc [], .bool false, .bool false, .int .u64 0, .sl DeedR.pc []]⟩
abbrev ty56:TI:=⟨.slc 126,1,24,[.sl LentR.pc []]⟩
abbrev ty57:TI:=⟨.slc 184,1,24,[.sl DeedR.pc []]⟩
abbrev ty59:TI:=⟨.agg [(0,1),(1,1),(2,1),(3,1),(4,1),(5,1),(6,1)],7,96,[.int .i64 0, .sl L_.pc [], .sl LentR.pc [], .bool false, .bool false, .int .u64 0, .sl DeedR.pc []]⟩
def tbv41:Tb:=[(3,ty3),(4,ty4),(5,ty5),(9,ty9),(25,ty25),(26,ty26),(27,ty27),(28,ty28),(30,ty30),(32,ty32),(47,ty47),(51,ty51),(53,ty53),(56,ty56),(57,ty57),(59,ty59),(151,ty151),(184,Y3_)]
theorem tv41:tbB Tryz.prog tbv41=true:=by kernel_rfl
theorem Ob_ (d:DeedR) (x1:Bs) (x2:Int):Fn Tryz.prog gb 94 [.agg (DeedR.pc d), .el [.str x1] 0, .el [.int .u64 x2] 0] (.bool (F9_ d x1 x2)):=by
  refine fC Tryz.func94 tv41 Tryz.ntmps94 fun w N H hG=>?_;have e0:=F9_.eq_1 d x1 x2;refine gmy tv41 27 [0] fun B2=>?_;exact rt1 rfl rfl (Au_ (fun r:Bool=> .bool r) e0 (ple rfl))
theorem Gu_ (x:Ap_) (name:Bs) (id:Int):Fn Tryz.prog gb 41 [.agg (Ap_.pc x), .str name, .int .u64 id] (.bool (Ce_ x name id)):=by
  refine fC Tryz.func41 tv41 Tryz.ntmps41 fun w N H hG=>?_;have e0:=Ce_.eq_1 x name id;refine gm tv41 12 [0,1,2] fun B2=>?_;refine freeze (i:=1) (t:=4) rfl rfl rfl rfl ?_;refine freeze (i:=2) (t:=5) rfl rfl rfl rfl ?_;refine gx tv41 1 ?_;refine call (cF_Deed _ _ _ _ (fun z_5:DeedR=>(F9_ z_5 name id)) (fun z_5=>Ob_ z_5 name id)) rfl rfl fun w6=>?_;refine gx tv41 4 ?_;exact rt1 rfl rfl (Au_ (fun r:Bool=> .bool r) e0 (ple rfl))
theorem Lq_ (d:DeedR) (hl:d.mail.head.length<=1000000:=by first|omega|(simp;done)|decide):Fn Tryz.prog gb 141 [.agg (DeedR.pc d)] (.agg (DeedR.pc (Fv_ d))):=by
  refine fC Tryz.func141 tv41 Tryz.ntmps141 fun w N H hG=>?_;have e0:=Fv_.eq_1 d;refine gm tv41 11 [0,1] fun B2=>?_;refine call (Hy_ _) rfl rfl fun w4=>?_;refine gm tv41 12 [] fun _=>?_;exact rt1 rfl rfl (Au_ (fun r:DeedR=> .agg (DeedR.pc r)) e0 (ple rfl))
theorem Lg_ (x:Ap_) (d:DeedR):Fn Tryz.prog gb 139 [.agg (Ap_.pc x), .agg (DeedR.pc d)] (.int .i64 (Bg_ x d)):=by
  refine fC Tryz.func139 tv41 Tryz.ntmps139 fun w N H hG=>?_;have e0:=Bg_.eq_1 x d;generalize Bg_ x d=z at e0 ⊢;refine gm tv41 8 [0,1] fun B2=>?_;obtain⟨o,e_o,q_o⟩:=Ni_ e0;refine Dv_ (ι:=Unit) [2,3] [0,1] (fun _=>[]) (fun _=>[]) (fun _=>o = .fin ()) ?_ ?_
  · refine gx tv41 14 ?_;refine cE e_o (fun h4 e6=>?_) (fun h4 e8=>?_)
    · have p5:=dt h4;refine gx tv41 2 ?_;refine cndT rfl h4 ?_;refine gx tv41 2 ?_;refine nX () ?_ trivial trivial;exact e6
    have p7:=df h4;refine gx tv41 5 ?_;refine cD e8 (fun p10 e11=>?_) (fun p12 e13=>?_)
    · refine gx tv41 2 ?_;refine nX () ?_ trivial trivial;exact e11
    refine gx tv41 9 ?_;have e14:=Ez_ q_o e13;subst e14;exact qr1
  rintro _ hp15;have e16:=Tn_ q_o hp15;refine gx tv41 5 ?_;refine call (S0_ _) rfl rfl fun w17=>?_;have :=Ti_ d;refine gx tv41 11 ?_;refine cN e16 (fun p20 e21=>?_) (fun p23 e24=>?_)
  · refine gx tv41 9 ?_;subst e21;exact qr1
  refine gy tv41 11 ?_;refine callg rfl (fun hc=>(Gu_ _ _ _)) rfl ⟨(fun hc=>hc),(fun hc=>hc),(fun hc=>hc),trivial⟩ rfl rfl fun _=>?_;refine gy tv41 4 ?_;refine cE e24 (fun h25 e29=>?_) (fun h25 e30=>?_)
  · have h26:=bl h25;have p27:=dt h26;have h28:=br h25;refine gx tv41 8 ?_;subst e29;exact qr1
  refine gx tv41 9 ?_;refine cD e30 (fun p32 e33=>?_) (fun p34 e35=>?_)
  · refine gx tv41 8 ?_;subst e33;exact qr1
  refine gx tv41 9 ?_;subst e35;exact qr1
theorem Lo_ (x:List DeedR) (name:Bs) (id:Int):Fn Tryz.prog gb 143 [.sl DeedR.pc x, .str name, .int .u64 id] (.bool (C9_ x name id)):=by
  refine fC Tryz.func143 tv41 Tryz.ntmps143 fun w N H hG=>?_;have x_l:x.length<=140737488355328:=w.1.1;have name_l:name.length<=9223372036854775807:=w.2.1;have id_r:0<=id/\id<=18446744073709551615:=w.2.2.1;have e0:=C9_.eq_1 x name id;generalize C9_ x name id=z at e0 ⊢;refine gx tv41 14 ?_;refine loop (ι:=Nat) [1,2,9,10] [] (fun k=>[(11, .int .i64 (k:Int))]) (fun k=>[]) (fun k=>k<=x.length/\z=Do_ name id (x.drop k)) (fun k=>x.length-k) 0 ⟨rfl,trivial⟩ trivial ?_ ?_
  · exact⟨Nat.zero_le _,e0⟩
  rintro k ⟨hp1_1,hp1_2⟩;refine gx tv41 6 ?_;refine cn rfl (fun p3=>?_) fun p19=>?_
  · have e4:=C1_ (f:=fun zz=>Do_ name id zz) hp1_2 (Fr_ (by omega)) (Do_.eq_2 _ _ _ _);have hc5:=getG (xs:=x) (k:=k) (by omega);refine gx tv41 6 ?_;refine q1 (qidx tv41 k rfl rfl rfl hc5 rfl rfl rfl rfl) rfl fun w6=>?_;refine gmy tv41 24 [0] fun B8=>?_;refine cE e4 (fun h9 e17=>?_) (fun h9 e18=>?_)
    · have h10:=bl h9;have h11:=bl h10;have p12:=dt h11;have h13:=br h10;have p14:=dt h13;have h15:=br h9;have p16:=dt h15;refine gx tv41 11 ?_;subst e17;exact qr1
    refine gy tv41 7 ?_;refine next (k+1) rfl rfl ⟨rfl,trivial⟩ trivial ?_ ?_
    · (try simp only[]);omega
    exact⟨by (try simp only[]);omega,e18⟩
  have e20:=C1_ (f:=fun zz=>Do_ name id zz) hp1_2 (Gb_ (by omega)) (Do_.eq_1 _ _);refine gx tv41 11 ?_;subst e20;exact qr1
theorem Oj_:Fn Tryz.prog gb 9 [] (.agg (ChanR.pc (Cz_))):=by
  refine fC Tryz.func9 tv41 Tryz.ntmps9 fun w N H hG=>?_;have e0:=Cz_.eq_1;refine gm tv41 12 [0] fun B2=>?_;exact rt1 rfl rfl (Au_ (fun r:ChanR=> .agg (ChanR.pc r)) e0 (ple rfl))
theorem Hq_ (c:ChanR) (n:Int):Fn Tryz.prog gb 36 [.agg (ChanR.pc c), .int .u64 n] (.tup [.agg (ChanR.pc ((Ae_ c n).1)), .int .i64 ((Ae_ c n).2)]):=by
  refine fC Tryz.func36 tv41 Tryz.ntmps36 fun w N H hG=>?_;have e0:=Ae_.eq_1 c n;generalize Ae_ c n=z at e0 ⊢;refine gmy tv41 18 [0,1] fun B2=>?_;refine cE e0 (fun h4 e5=>?_) (fun h4 e11=>?_)
  · refine gm tv41 9 [] fun _=>?_;subst e5;exact qr2
  have h7:=orl h4;have p8:=df h7;have h9:=orr h4;have p10:=df h9;refine gm tv41 18 [] fun _=>?_;subst e11;exact qr2
theorem Fo_ (c:ChanR) (hc:0<=c.credit/\c.credit<=1000:=by first|omega|(simp;omega)|decide +kernel):Fn Tryz.prog gb 38 [.agg (ChanR.pc c)] (.int .i64 (Ar_ c)):=by
  refine fC Tryz.func38 tv41 Tryz.ntmps38 fun w N H hG=>?_;have c_takers_l:c.takers.length<=140737488355328:=w.1.2.1.1;have c_lent_l:c.lent.length<=140737488355328:=w.1.2.2.1.1;have c_held_l_l:c.held.l.length<=140737488355328:=w.1.2.2.2.2.2.2.1.1;have e0:=Ar_.eq_1 c;refine gmy tv41 19 [0] fun B2=>?_;exact rt1 rfl rfl (Au_ (fun r:Int=> .int .i64 r) e0 (ple rfl))
theorem Xv_ (t:L_) (x1:Int):Fn Tryz.prog gb 136 [.agg (L_.pc t), .el [.int .u64 x1] 0] (.bool (Kw_ t x1)):=by
  refine fC Tryz.func136 tv41 Tryz.ntmps136 fun w N H hG=>?_;have e0:=Kw_.eq_1 t x1;refine gm tv41 16 [0] fun B2=>?_;exact rt1 rfl rfl (Au_ (fun r:Bool=> .bool r) e0 (ple rfl))
theorem J6_ (c:ChanR) (tag:Int):Fn Tryz.prog gb 95 [.agg (ChanR.pc c), .int .u64 tag] (.int .i64 (Dp_ c tag)):=by
  refine fC Tryz.func95 tv41 Tryz.ntmps95 fun w N H hG=>?_;have e0:=Dp_.eq_1 c tag;refine gm tv41 11 [0,1] fun B2=>?_;refine freeze (i:=1) (t:=3) rfl rfl rfl rfl ?_;refine gx tv41 1 ?_;refine call (idxF_Taker _ _ _ _ (fun z_4:L_=>(Kw_ z_4 tag)) (fun z_4=>Xv_ z_4 tag)) rfl rfl fun w5=>?_;have hix5:=Lm_ (fun z_4:L_=>(Kw_ z_4 tag)) c.takers;refine gx tv41 4 ?_;exact rt1 rfl rfl (Au_ (fun r:Int=> .int .i64 r) e0 (ple rfl))
theorem Md_ (c:ChanR):Fn Tryz.prog gb 50 [.agg (ChanR.pc c)] (.tup [.agg (ChanR.pc ((Bx_ c).1)), .int .i64 ((Bx_ c).2)]):=by
  refine fC Tryz.func50 tv41 Tryz.ntmps50 fun w N H hG=>?_;have e0:=Bx_.eq_1 c;generalize Bx_ c=z at e0 ⊢;refine gm tv41 14 [0,1] fun B2=>?_;refine cE e0 (fun h4 e5=>?_) (fun h4 e7=>?_)
  · refine gm tv41 9 [] fun _=>?_;subst e5;exact qr2
  refine gm tv41 16 [] fun _=>?_;subst e7;exact qr2
theorem Nq_ (c:ChanR):Fn Tryz.prog gb 52 [.agg (ChanR.pc c)] (.tup [.agg (ChanR.pc ((Bp_ c).1)), .int .u64 ((Bp_ c).2)]):=by
  refine fC Tryz.func52 tv41 Tryz.ntmps52 fun w N H hG=>?_;have e0:=Bp_.eq_1 c;generalize Bp_ c=z at e0 ⊢;refine gm tv41 15 [0,1] fun B2=>?_;refine cE e0 (fun h4 e6=>?_) (fun h4 e9=>?_)
  · have h5:=Br_ h4;refine gm tv41 9 [] fun _=>?_;subst e6;exact qr2
  have h8:=Bf_ h4;have :=Sf_ (c.puts+1);refine gm tv41 12 [] fun _=>?_;refine aN [1,2,3,4,5,6,7] 5 mixd ?_;refine gX tv41 [0,1,2] 2 ?_;refine vE 3 rfl (sA tv41 ?_);refine gX tv41 [4] 0 ?_;refine vD ?_;refine gx tv41 2 ?_;subst e9;exact qr2
theorem Li_ (c:ChanR):Fn Tryz.prog gb 192 [.agg (ChanR.pc c)] (.int .u64 (E2_ c)):=by
  refine fC Tryz.func192 tv41 Tryz.ntmps192 fun w N H hG=>?_;have e0:=E2_.eq_1 c;refine gm tv41 14 [0] fun B2=>?_;exact rt1 rfl rfl (Au_ (fun r:Int=> .int .u64 r) e0 (ple rfl))
theorem L0_ (c:ChanR):Fn Tryz.prog gb 54 [.agg (ChanR.pc c)] (.tup [.agg (ChanR.pc ((Be_ c).1)), .int .i64 ((Be_ c).2)]):=by
  refine fC Tryz.func54 tv41 Tryz.ntmps54 fun w N H hG=>?_;have e0:=Be_.eq_1 c;generalize Be_ c=z at e0 ⊢;refine gmy tv41 18 [0,1] fun B2=>?_;refine cE e0 (fun h4 e5=>?_) (fun h4 e9=>?_)
  · refine gm tv41 9 [] fun _=>?_;subst e5;exact qr2
  have h7:=orl h4;have h8:=orr h4;refine gm tv41 16 [] fun _=>?_;subst e9;exact qr2
theorem Hp_ (c:ChanR):Fn Tryz.prog gb 109 [.agg (ChanR.pc c)] (.bool (Dm_ c)):=by
  refine fC Tryz.func109 tv41 Tryz.ntmps109 fun w N H hG=>?_;have e0:=Dm_.eq_1 c;refine gm tv41 14 [0] fun B2=>?_;exact rt1 rfl rfl (Au_ (fun r:Bool=> .bool r) e0 (ple rfl))
theorem Iu_ (c:ChanR):Fn Tryz.prog gb 58 [.agg (ChanR.pc c)] (.tup [.agg (ChanR.pc ((Bk_ c).1)), .int .i64 ((Bk_ c).2)]):=by
  refine fC Tryz.func58 tv41 Tryz.ntmps58 fun w N H hG=>?_;have e0:=Bk_.eq_1 c;generalize Bk_ c=z at e0 ⊢;refine gm tv41 15 [0,1] fun B2=>?_;refine cE e0 (fun h4 e6=>?_) (fun h4 e9=>?_)
  · have h5:=Br_ h4;refine gm tv41 9 [] fun _=>?_;subst e6;exact qr2
  have h8:=Bf_ h4;refine gm tv41 17 [] fun _=>?_;subst e9;exact qr2
theorem r27_New_ok:Fn Tryz.prog gb 167 [] (.agg (ChanR.pc (Kr_))):=by
  refine fC Tryz.func167 tv41 Tryz.ntmps167 fun w N H hG=>?_;have e0:=Kr_.eq_1;refine gm tv41 12 [0] fun B2=>?_;exact rt1 rfl rfl (Au_ (fun r:ChanR=> .agg (ChanR.pc r)) e0 (ple rfl))
theorem Td_ (c:ChanR) (n:Int):Fn Tryz.prog gb 43 [.agg (ChanR.pc c), .int .u64 n] (.tup [.agg (ChanR.pc ((F2_ c n).1)), .int .i64 ((F2_ c n).2)]):=by
  refine fC Tryz.func43 tv41 Tryz.ntmps43 fun w N H hG=>?_;have e0:=F2_.eq_1 c n;generalize F2_ c n=z at e0 ⊢;refine gmy tv41 18 [0,1] fun B2=>?_;refine cE e0 (fun h4 e5=>?_) (fun h4 e11=>?_)
  · refine gm tv41 9 [] fun _=>?_;subst e5;exact qr2
  have h7:=orl h4;have p8:=df h7;have h9:=orr h4;have p10:=df h9;refine gm tv41 18 [] fun _=>?_;subst e11;exact qr2
theorem Rf_ (c:ChanR) (hc:0<=c.credit/\c.credit<=1000:=by first|omega|(simp;omega)|decide +kernel):Fn Tryz.prog gb 86 [.agg (ChanR.pc c)] (.int .i64 (J5_ c)):=by
  refine fC Tryz.func86 tv41 Tryz.ntmps86 fun w N H hG=>?_;have e0:=J5_.eq_1 c;generalize J5_ c=z at e0 ⊢;refine gm tv41 17 [0] fun B2=>?_;refine cD e0 (fun p4 e5=>?_) (fun p6 e7=>?_)
  · refine gx tv41 7 ?_;subst e5;exact qr1
  refine gy tv41 14 ?_;subst e7;exact qr1
theorem Zo_ (c:ChanR):Fn Tryz.prog gb 51 [.agg (ChanR.pc c)] (.tup [.agg (ChanR.pc ((K5_ c).1)), .int .i64 ((K5_ c).2)]):=by
  refine fC Tryz.func51 tv41 Tryz.ntmps51 fun w N H hG=>?_;have e0:=K5_.eq_1 c;generalize K5_ c=z at e0 ⊢;refine gm tv41 14 [0,1] fun B2=>?_;refine cE e0 (fun h4 e5=>?_) (fun h4 e7=>?_)
  · refine gm tv41 9 [] fun _=>?_;subst e5;exact qr2
  refine gm tv41 16 [] fun _=>?_;subst e7;exact qr2
theorem r27_Put_ok (c:ChanR):Fn Tryz.prog gb 53 [.agg (ChanR.pc c)] (.tup [.agg (ChanR.pc ((I0_ c).1)), .int .u64 ((I0_ c).2)]):=by
  refine fC Tryz.func53 tv41 Tryz.ntmps53 fun w N H hG=>?_;have e0:=I0_.eq_1 c;generalize I0_ c=z at e0 ⊢;refine gm tv41 14 [0,1] fun B2=>?_;refine cE e0 (fun h4 e5=>?_) (fun h4 e7=>?_)
  · have :=Sf_ (c.puts+1);refine gm tv41 9 [] fun _=>?_;refine aN [1,2,3,4,5,6,7] 5 mixd ?_;refine gX tv41 [0,1,2] 2 ?_;refine vE 3 rfl (sA tv41 ?_);refine gX tv41 [4] 0 ?_;refine vD ?_;refine gx tv41 2 ?_;subst e5;exact qr2
  refine gx tv41 3 ?_;refine aN [1,2,3,4,5,6,7] 5 mixd ?_;refine gX tv41 [0,1,2] 2 ?_;refine vE 3 rfl (sA tv41 ?_);refine gX tv41 [4] 0 ?_;refine vD ?_;refine gx tv41 2 ?_;subst e7;exact qr2
theorem Xk_ (c:ChanR):Fn Tryz.prog gb 55 [.agg (ChanR.pc c)] (.tup [.agg (ChanR.pc ((Jc_ c).1)), .int .i64 ((Jc_ c).2)]):=by
  refine fC Tryz.func55 tv41 Tryz.ntmps55 fun w N H hG=>?_;have e0:=Jc_.eq_1 c;generalize Jc_ c=z at e0 ⊢;refine gmy tv41 18 [0,1] fun B2=>?_;refine cE e0 (fun h4 e5=>?_) (fun h4 e9=>?_)
  · refine gm tv41 9 [] fun _=>?_;subst e5;exact qr2
  have h7:=orl h4;have h8:=orr h4;refine gm tv41 16 [] fun _=>?_;subst e9;exact qr2
theorem Q4_ (c:ChanR):Fn Tryz.prog gb 59 [.agg (ChanR.pc c)] (.tup [.agg (ChanR.pc ((Il_ c).1)), .int .i64 ((Il_ c).2)]):=by
  refine fC Tryz.func59 tv41 Tryz.ntmps59 fun w N H hG=>?_;have e0:=Il_.eq_1 c;generalize Il_ c=z at e0 ⊢;refine gm tv41 15 [0,1] fun B2=>?_;refine cE e0 (fun h4 e6=>?_) (fun h4 e9=>?_)
  · have h5:=Br_ h4;refine gm tv41 9 [] fun _=>?_;subst e6;exact qr2
  have h8:=Bf_ h4;refine gx tv41 5 ?_;refine ef (sO tv41 ?_);refine box_nil (i:=0) (off:=6) (enc:=DeedR.pc) rfl rfl rfl ?_;refine gm tv41 10 [] fun _=>?_;subst e9;exact qr2
theorem cb273:Ah_ Tryz.prog 273:=Z_ Tryz.func273 (by kernel_rfl) (by kernel_rfl)
def tbv45:Tb:=[(9,ty9),(44,ty44),(49,ty49),(200,Um_),(339,ty339),(340,ty340),(342,ty342),(371,ty371)]
theorem tv45:tbB Tryz.prog tbv45=true:=by kernel_rfl
theorem Oh_ (l:List Bs) (s:Bs) (hl:l.length<=100000:=by first|omega|(simp;omega)|decide +kernel):Fl Tryz.prog gb 273 [.str s] (fun u=> .val u) 1 9 strc l (Hh_ l s):=by
  refine fl_cw tv45 Tryz.func273 rfl Tryz.ntmps273 rfl cb273 (fun _=>rfl) rfl fun w l_l u0 N H hG=>?_;have e0:=Hh_.eq_1 l s;refine gx tv45 10 ?_;refine ef (calll 0 rfl (Ws_ _ _) rfl rfl rfl fun w1=>?_);refine gx tv45 2 ?_;refine cD e0 (fun p3 e4=>?_) (fun p5 e6=>?_)
  · refine gx tv45 6 ?_;refine sw_val (t:=4) (i:=0) rfl rfl ?_;refine gx tv45 2 ?_;refine ro1 (j:=0) rfl rfl rfl ?_;exact (congrArg (fun r:(List Bs)=>r) e4).symm
  refine gx tv45 6 ?_;refine ef (bsl 1 strc [s] tv45 rfl rfl rfl rfl rfl (fun _=>rfl) rfl (by decide) (by decide) rfl fun u7=>?_);refine ef (app tv45 [s] rfl rfl rfl rfl rfl rfl rfl rfl rfl (src_o rfl rfl) (by first|omega|(simp;omega)) rfl fun u8=>?_);refine gx tv45 3 ?_;refine sw_val (t:=4) (i:=0) rfl rfl ?_;refine gx tv45 1 ?_;refine ro1 (j:=0) rfl rfl rfl ?_;exact (congrArg (fun r:(List Bs)=>r) e6).symm
theorem M3_ (b:BookR) (x:ShopR) (hs:b.shops.length<=1000:=by first|omega|(simp;omega)|decide +kernel):Fn Tryz.prog gb 256 [.agg (BookR.pc b), .agg (ShopR.pc x)] (.tup [.agg (BookR.pc ((Dq_ b x).1)), .int .i64 ((Dq_ b x).2)]):=by
  refine fC Tryz.func256 tv45 Tryz.ntmps256 fun w N H hG=>?_;have e0:=Dq_.eq_1 b x;generalize Dq_ b x=z at e0 ⊢;refine gm tv45 12 [0,1,2] fun B2=>?_;refine call (shop_check _) rfl rfl fun w5=>?_;have :=shopE_r x;refine gx tv45 9 ?_;refine cN e0 (fun p8 e9=>?_) (fun p12 e13=>?_)
  · refine gm tv45 10 [] fun _=>?_;subst e9;exact qr2
  refine gx tv45 7 ?_;refine call (Rj_ _ _) rfl rfl fun w14=>?_;refine gm tv45 16 [3] fun B16=>?_;refine q1g [25,26] rfl (fun hc=>saeq rfl rfl eqg44 (veq44 x ((Eu_ b.shops x.name).getD ShopR.zero))) ⟨(fun hc=>hc),(fun hc=>hc),trivial⟩ rfl rfl rfl fun _=>?_;refine gy tv45 4 ?_;refine cE e13 (fun h17 e21=>?_) (fun h17 e23=>?_)
  · have h18:=bl h17;have h19:=br h17;have p20:=dt h19;refine gm tv45 10 [] fun _=>?_;subst e21;exact qr2
  refine gx tv45 6 ?_;refine cE e23 (fun h24 e25=>?_) (fun h24 e27=>?_)
  · refine gm tv45 10 [] fun _=>?_;subst e25;exact qr2
  refine gx tv45 9 ?_;refine cD e27 (fun p29 e30=>?_) (fun p32 e33=>?_)
  · refine gm tv45 10 [] fun _=>?_;subst e30;exact qr2
  refine gx tv45 8 ?_;refine ef (bsl 4 ShopR.pc [x] tv45 rfl rfl rfl rfl rfl (fun _=>rfl) rfl (by decide) (by decide) rfl fun u34=>?_);refine give 4 rfl ?_;refine ef (bsl 4 (slc ShopR.pc) [b.shops,[x]] tv45 rfl rfl rfl rfl rfl (fun _=>rfl) rfl (by decide) (by decide) rfl fun u35=>?_);refine give 4 rfl ?_;refine call (Y2_ _) rfl rfl fun w36=>?_;refine gm tv45 12 [] fun _=>?_;subst e33;exact qr2
theorem L5_ (b:BookR) (x:BindR):Fn Tryz.prog gb 270 [.agg (BookR.pc b), .agg (BindR.pc x)] (.int .i64 (Fg_ b x)):=by
  refine fC Tryz.func270 tv45 Tryz.ntmps270 fun w N H hG=>?_;have e0:=Fg_.eq_1 b x;refine gm tv45 13 [0,1] fun B2=>?_;refine call (idxF_Bind _ _ _ _ (fun z_4:BindR=>decide (x=z_4)) (fun z_4=>bind_same x z_4)) rfl rfl fun w5=>?_;have hix5:=Lm_ (fun z_4:BindR=>decide (x=z_4)) b.binds;refine gx tv45 4 ?_;exact rt1 rfl rfl (Au_ (fun r:Int=> .int .i64 r) e0 (ple rfl))
abbrev R0_:Int->PV:=fun r=> .int .i64 r
def tbv46:Tb:=[(4,ty4),(5,ty5),(9,ty9),(44,ty44),(49,ty49),(200,Um_),(340,ty340),(342,ty342),(375,ty375)]
theorem tv46:tbB Tryz.prog tbv46=true:=by kernel_rfl
theorem Iq_ (b:BookR) (x:BindR) (hb:b.binds.length<=1000:=by first|omega|(simp;omega)|decide +kernel) (hw:x.want.length<=1000:=by first|omega|(simp;omega)|decide +kernel):Fn Tryz.prog gb 257 [.agg (BookR.pc b), .agg (BindR.pc x)] (.tup [.agg (BookR.pc ((B3_ b x).1)), .int .i64 ((B3_ b x).2)]):=by
  refine fC Tryz.func257 tv46 Tryz.ntmps257 fun w N H hG=>?_;have e0:=B3_.eq_1 b x;generalize B3_ b x=z at e0 ⊢;refine gm tv46 13 [0,1,2] fun B2=>?_;refine call (Rj_ _ _) rfl rfl fun w5=>?_;refine gm tv46 17 [3] fun B7=>?_;refine cE e0 (fun h8 e10=>?_) (fun h8 e13=>?_)
  · have h9:=Br_ h8;refine gm tv46 10 [] fun _=>?_;subst e10;exact qr2
  have h12:=Bf_ h8;refine gx tv46 8 ?_;refine cD e13 (fun p15 e16=>?_) (fun p18 e19=>?_)
  · refine gm tv46 10 [] fun _=>?_;subst e16;exact qr2
  refine gx tv46 8 ?_;refine call (Ck_ _) rfl rfl fun w20=>?_;refine gx tv46 9 ?_;refine cN e19 (fun p23 e24=>?_) (fun p27 e28=>?_)
  · refine gm tv46 10 [] fun _=>?_;subst e24;exact qr2
  refine gx tv46 8 ?_;refine call (M7_ _ _) rfl rfl fun w29=>?_;refine call (Sc_ _) rfl rfl fun w30=>?_;refine gx tv46 11 ?_;refine cN e28 (fun p33 e34=>?_) (fun p37 e38=>?_)
  · refine gm tv46 11 [] fun _=>?_;subst e34;exact qr2
  refine gx tv46 4 ?_;refine cV e38 R0_ (L5_ _ _) rfl fun r hr39 e41 w40=>?_;have hA41:=there_r b x
  (try rw[<- hr39] at hA41)
  refine gx tv46 4 ?_;refine cD e41 (fun p44 e45=>?_) (fun p47 e48=>?_)
  · refine gm tv46 10 [] fun _=>?_;subst e45;exact qr2
  refine gx tv46 9 ?_;refine cD e48 (fun p50 e51=>?_) (fun p53 e54=>?_)
  · refine gm tv46 10 [] fun _=>?_;subst e51;exact qr2
  refine gx tv46 4 ?_;refine aN [4,5,6,7,8,9] 9 mixd ?_;refine gX tv46 [0,1,2] 6 ?_;refine vE 3 rfl (eC (bind_clone _) rfl fun w55=>?_);refine vE 4 rfl (bsl 4 BindR.pc [x] tv46 rfl rfl rfl rfl rfl (fun _=>rfl) rfl (by decide) (by decide) rfl fun u56=>?_);refine vE 5 rfl (Lf_ 4 rfl (bsl 4 (slc BindR.pc) [b.binds,[x]] tv46 rfl rfl rfl rfl rfl (fun _=>rfl) rfl (by decide) (by decide) rfl fun u57=>?_));refine vE 6 rfl (Lf_ 4 rfl (Me_ (eC (Y5_ _) rfl fun w58=>?_)));refine gX tv46 [7] 1 ?_;refine vT 8 rfl (sO tv46 ?_);refine vD ?_;refine gm tv46 9 [] fun _=>?_;subst e54;exact qr2
theorem Lt_ (b:BookR) (shop:Bs) (key:Bs) (h:List Pair) (hb:b.binds.length<=1000:=by first|omega|(simp;omega)|decide +kernel) (hk:key.length<4294967281:=by first|omega|(simp;omega)|decide +kernel) (hr:∀ y∈b.binds,y.key.length<4294967281:=by first|assumption|decide +kernel):Fn Tryz.prog gb 258 [.agg (BookR.pc b), .str shop, .str key, .sl Pair.pc h] (.tup [.sl strc ((Dh_ b shop key h).1), .sl strc ((Dh_ b shop key h).2.1), .int .i64 ((Dh_ b shop key h).2.2)]):=by
  refine fC Tryz.func258 tv46 Tryz.ntmps258 fun w N H hG=>?_;have e0:=Dh_.eq_1 b shop key h;generalize Dh_ b shop key h=z at e0 ⊢;refine gm tv46 13 [0] fun B2=>?_;refine call (Rj_ _ _) rfl rfl fun w3=>?_;refine gm tv46 17 [1] fun B5=>?_;refine cE e0 (fun h6 e8=>?_) (fun h6 e10=>?_)
  · have h7:=Br_ h6;refine gx tv46 11 ?_;subst e8;exact rt3 rfl rfl (Ba_ (B_ Ak_ (B_ Ak_ (B_ (ple rfl) Ag_))))
  have h9:=Bf_ h6;refine gx tv46 8 ?_;refine cD e10 (fun p12 e13=>?_) (fun p15 e16=>?_)
  · refine gx tv46 1 ?_;refine aN [2,3,4,5,6,7] 6 mixd ?_;refine gX tv46 [0,1,3] 3 ?_;refine vE 2 rfl (bsl 2 strc [((Eu_ b.shops shop).getD ShopR.zero).to] tv46 rfl rfl rfl rfl rfl (fun _=>rfl) rfl (by decide) (by decide) rfl fun u14=>?_);refine gX tv46 [4,5] 0 ?_;refine vD ?_;refine gx tv46 1 ?_;refine givec 2 rfl ?_;refine gx tv46 4 ?_;subst e13;exact rt3 rfl rfl (Ba_ (B_ Ak_ (B_ (ple rfl) (B_ (ple rfl) Ag_))))
  refine gx tv46 22 ?_;refine sw_own (t:=13) (k:=1) (e:=9) 2 strc rfl rfl ?_;refine sw_own (t:=14) (k:=1) (e:=9) 3 strc rfl rfl ?_;refine loop (ι:=Nat×(List Bs)×(List Bs)×Value×Value) [1,2,3,8,9,10,11,34,35] [0,1] (fun ⟨k,queues,places,u_queues,u_places⟩=>[(36, .int .i64 (k:Int)),(13, .osl 2),(14, .osl 3)]) (fun ⟨k,queues,places,u_queues,u_places⟩=>[(2, .arr u_queues 1 9 strc queues),(3, .arr u_places 1 9 strc places)]) (fun ⟨k,queues,places,u_queues,u_places⟩=>k<=b.binds.length/\z=B1_ b shop key h (b.binds.drop k) queues places/\queues.length<=k/\places.length<=k) (fun ⟨k,queues,places,u_queues,u_places⟩=>b.binds.length-k) ⟨0,[],[],(.slice none 0 0),(.slice none 0 0)⟩ ⟨rfl,rfl,rfl,trivial⟩ ⟨rfl,rfl,trivial⟩ ?_ ?_
  · exact⟨Nat.zero_le _,e16,(by first|omega|(simp;done)|(simp;omega))⟩
  rintro⟨k,queues,places,u_queues,u_places⟩ ⟨hp17_1,hp17_2,hp17_3⟩;refine gx tv46 6 ?_;refine cn rfl (fun p19=>?_) fun p52=>?_
  · have e20:=C1_ (f:=fun zz=>B1_ b shop key h zz queues places) hp17_2 (Fr_ (by omega)) (B1_.eq_2 _ _ _ _ _ _ _ _);have hc21:=getG (xs:=b.binds) (k:=k) (by omega);have hr_hc21:=hr (gt b.binds k) (List.mem_of_getElem? hc21);refine gx tv46 6 ?_;refine q1 (qidx tv46 k rfl rfl rfl hc21 rfl rfl rfl rfl) rfl fun w22=>?_;refine gm tv46 7 [4] fun B24=>?_;obtain⟨o,e_o,q_o⟩:=Cc_ e20;refine Dv_ (ι:=Bool) [1,2,3,8,9,10,11,13,14,16,34,35,36] [0,1,2,3,4] (fun v=>[(44, .bool v)]) (fun v=>[]) (fun v=>o=v) ?_ ?_
    · refine gx tv46 9 ?_;refine cN e_o (fun p27 e28=>?_) (fun p30 e31=>?_)
      · refine gx tv46 1 ?_;refine nX (!decide (((gt b.binds k).shop)=shop)) ?_ ⟨rfl,trivial⟩ trivial;exact e28
      refine gx tv46 4 ?_;refine call (M7_ _ _) rfl rfl fun w32=>?_;refine gx tv46 2 ?_;refine call (Pt_ _ _ _ (hrk:=by simp only[It_];omega)) rfl rfl fun w33=>?_;refine gx tv46 3 ?_;refine nX (!(Nz_ (It_ (gt b.binds k) (((Eu_ b.shops shop).getD ShopR.zero).sort)) key h)) ?_ ⟨rfl,trivial⟩ trivial;exact e31
    rintro v hp34;have e35:=D5_ q_o hp34;refine gx tv46 1 ?_;refine cE e35 (fun h36 e37=>?_) (fun h36 e38=>?_)
    · refine gy tv46 8 ?_;refine next ⟨(k+1),queues,places,(u_queues),(u_places)⟩ rfl rfl ⟨rfl,rfl,rfl,trivial⟩ ⟨rfl,rfl,trivial⟩ ?_ ?_
      · (try simp only[]);omega
      exact⟨by (try simp only[]);omega,e37,⟨by (try simp only[]);omega,by (try simp only[]);omega⟩⟩
    refine gx tv46 7 ?_;refine cE e38 (fun h39 e40=>?_) (fun h39 e46=>?_)
    · refine gx tv46 4 ?_;refine ef (ecallw (Oh_ _ _) rfl rfl rfl rfl rfl rfl ?_);generalize hr43:Hh_ places ((gt b.binds k).to)=r;intro u41 w42;have e44:=e40.trans (Aq_ hr43.symm);have hr43:=hr43.symm;have hA44:=put_len places ((gt b.binds k).to)
      (try rw[<- hr43] at hA44)
      refine gy tv46 9 ?_;refine lj_osl (t:=14) 3 rfl rfl ?_;refine next ⟨(k+1),queues,r,(u_queues),(u41)⟩ rfl rfl ⟨rfl,rfl,rfl,trivial⟩ ⟨rfl,rfl,trivial⟩ ?_ ?_
      · (try simp only[]);omega
      exact⟨by (try simp only[]);omega,e44,⟨by (try simp only[]);omega,by (try simp only[]);omega⟩⟩
    refine gx tv46 4 ?_;refine ef (ecallw (Oh_ _ _) rfl rfl rfl rfl rfl rfl ?_);generalize hr49:Hh_ queues ((gt b.binds k).to)=r1;intro u47 w48;have e50:=e46.trans (Aq_ hr49.symm);have hr49:=hr49.symm;have hA50:=put_len queues ((gt b.binds k).to)
    (try rw[<- hr49] at hA50)
    refine gy tv46 9 ?_;refine lj_osl (t:=13) 2 rfl rfl ?_;refine next ⟨(k+1),r1,places,(u47),(u_places)⟩ rfl rfl ⟨rfl,rfl,rfl,trivial⟩ ⟨rfl,rfl,trivial⟩ ?_ ?_
    · (try simp only[]);omega
    exact⟨by (try simp only[]);omega,e50,⟨by (try simp only[]);omega,by (try simp only[]);omega⟩⟩
  have e53:=C1_ (f:=fun zz=>B1_ b shop key h zz queues places) hp17_2 (Gb_ (by omega)) (B1_.eq_1 _ _ _ _ _ _);refine gx tv46 14 ?_;refine givec 2 rfl ?_;refine givec 3 rfl ?_;refine gx tv46 2 ?_;subst e53;exact qr3
end Go.SW.V
