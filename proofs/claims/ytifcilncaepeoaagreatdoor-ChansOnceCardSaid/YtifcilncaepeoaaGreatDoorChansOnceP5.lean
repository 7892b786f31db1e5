/-
  A part of the proof of ChansOnce: The walks of this seat, printed by program: stairwelllaw27.Light, stairwelllaw27.settled, stairwelllaw27.done.
-/
import Derived.Test.YtifcilncaepeoaaGreatDoorProg
import Derived.Test.YtifcilncaepeoaaGreatDoorChansOnceP3
import Derived.KernelRfl
import Derived.Test.YtifcilncaepeoaaGreatDoorChansOnceP4
import Derived.Test.YtifcilncaepeoaaGreatDoorChansOnceP1
import Derived.Test.YtifcilncaepeoaaGreatDoorChansOnceP2
set_option linter.unusedVariables false
set_option linter.unusedSimpArgs false
set_option maxRecDepth 100000
set_option maxHeartbeats 4000000
namespace Go.SW.V
open Go.SW Go.Proofs
abbrev R6_:((List DeedR)×Bool)->PV:=fun r=> .tup [.sl DeedR.pc r.1, .bool r.2]
abbrev R7_:(ChanR×Int)->PV:=fun r=> .tup [.agg (ChanR.pc r.1), .int .i64 r.2]
abbrev R8_:(ChanR×ChanR×Bool)->PV:=fun r=> .tup [.agg (ChanR.pc r.1), .agg (ChanR.pc r.2.1), .bool r.2.2]
abbrev R9_:(ChanR×Int)->PV:=fun r=> .tup [.agg (ChanR.pc r.1), .int .u64 r.2]
abbrev ty22:TI:=⟨.slc 36,1,24,[.sl ActR.pc []]⟩
abbrev ty36:TI:=⟨.agg [(0,1),(1,1),(2,1),(3,1),(4,1),(5,1)],6,72,[.int .u8 0, .int .u64 0, .int .u64 0, .str [], .bool false, .sl DeedR.pc []]⟩
def tbv49:Tb:=[(4,ty4),(5,ty5),(9,ty9),(22,ty22),(27,ty27),(28,ty28),(32,ty32),(36,ty36),(39,ty39),(59,ty59),(126,ty126)]
theorem tv49:tbB Tryz.prog tbv49=true:=by kernel_rfl
theorem Le_ (l:List ActR):Fn Tryz.prog gb 8 [.sl ActR.pc l] (.bool (Dq_ l)):=by
  refine fC Tryz.func8 tv49 Tryz.ntmps8 fun w N H hG=>?_;have e0:=Dq_.eq_1 l;generalize Dq_ l=z at e0 ⊢;refine gx tv49 19 ?_;refine loop (ι:=Nat×Int) [6,7] [] (fun ⟨k,n⟩=>[(8, .int .i64 (k:Int)),(3, .int .i64 n)]) (fun ⟨k,n⟩=>[]) (fun ⟨k,n⟩=>k<=l.length/\z=Br_ (l.drop k) k n/\0<=n/\n<=100) (fun ⟨k,n⟩=>l.length-k) ⟨0,0⟩ ⟨rfl,rfl,trivial⟩ trivial ?_ ?_
  · exact⟨Nat.zero_le _,e0,(by first|omega|(simp;done)|(simp;omega))⟩
  rintro⟨k,n⟩ ⟨hp1_1,hp1_2,hp1_3⟩;refine gx tv49 6 ?_;refine cn rfl (fun p3=>?_) fun p23=>?_
  · have e4:=Bz_ (f:=fun zz=>Br_ zz k n) hp1_2 (Ec_ (by omega)) (Br_.eq_2 _ _ _ _);have hc5:=getG (xs:=l) (k:=k) (by omega);have hz_hc5:=(w.1.2 (gt l k) (List.mem_of_getElem? hc5)).2.2.2.2.2.1.1;refine gx tv49 7 ?_;refine q1 (qidx tv49 k rfl rfl rfl hc5 rfl rfl rfl rfl) rfl fun w6=>?_;refine gmy tv49 33 [0] fun B8=>?_;refine callg rfl (fun hc=>(Mc_ _)) rfl ⟨(fun hc=>hc),trivial⟩ rfl rfl fun _=>?_;refine gy tv49 4 ?_;refine cE e4 (fun h9 e10=>?_) (fun h9 e22=>?_)
    · refine gx tv49 11 ?_;subst e10;exact qr1
    have h11:=orl h9;have h12:=orl h11;have h13:=orl h12;have p14:=df h13;have h15:=orr h12;have p16:=df h15;have h17:=orr h11;have p18:=df h17;have h19:=orr h9;have h20:=Bb_ h19;have hb20:=l23_ok h20
    (try obtain⟨hb20a,hb20b⟩:=hb20)
    refine gy tv49 7 ?_;refine next ⟨(k+1),(n+(((gt l k).l).length:Int))⟩ rfl rfl ⟨rfl,rfl,trivial⟩ trivial ?_ ?_
    · (try simp only[]);omega
    exact⟨by (try simp only[]);omega,e22,by (try simp only[]);omega⟩
  have e24:=Bz_ (f:=fun zz=>Br_ zz k n) hp1_2 (D5_ (by omega)) (Br_.eq_1 _ _);refine gx tv49 11 ?_;subst e24;exact qr1
theorem Iv_ (c:ChanR) (q:ChanR) (a:ActR) (hc:COk c 100:=by first|assumption|exact Fl_ (by assumption) (by omega)) (hq:COk q 100:=by first|assumption|exact Fl_ (by assumption) (by omega)):Fn Tryz.prog gb 49 [.agg (ChanR.pc c), .agg (ChanR.pc q), .agg (ActR.pc a)] (.tup [.agg (ChanR.pc ((Bi_ c q a).1)), .agg (ChanR.pc ((Bi_ c q a).2.1)), .bool ((Bi_ c q a).2.2)]):=by
  refine fC Tryz.func49 tv49 Tryz.ntmps49 fun w N H hG=>?_;have c_credit_r:-9223372036854775808<=c.credit/\c.credit<=9223372036854775807:=w.1.1;have c_takers_l:c.takers.length<=140737488355328:=w.1.2.1.1;have c_lent_l:c.lent.length<=140737488355328:=w.1.2.2.1.1;have c_puts_r:0<=c.puts/\c.puts<=18446744073709551615:=w.1.2.2.2.2.2.1;have c_held_l_l:c.held.l.length<=140737488355328:=w.1.2.2.2.2.2.2.1.1;have q_credit_r:-9223372036854775808<=q.credit/\q.credit<=9223372036854775807:=w.2.1.1;have q_takers_l:q.takers.length<=140737488355328:=w.2.1.2.1.1;have q_lent_l:q.lent.length<=140737488355328:=w.2.1.2.2.1.1;have q_puts_r:0<=q.puts/\q.puts<=18446744073709551615:=w.2.1.2.2.2.2.2.1;have q_held_l_l:q.held.l.length<=140737488355328:=w.2.1.2.2.2.2.2.2.1.1;have a_dow_r:0<=a.dow/\a.dow<=255:=w.2.2.1.1;have a_n_r:0<=a.n/\a.n<=18446744073709551615:=w.2.2.1.2.1;have a_how_r:0<=a.how/\a.how<=18446744073709551615:=w.2.2.1.2.2.1;have a_queue_l:a.queue.length<=9223372036854775807:=w.2.2.1.2.2.2.1;have a_l_l:a.l.length<=140737488355328:=w.2.2.1.2.2.2.2.2.1.1;have hcc:=hc;obtain⟨hc1,hc2,hc3,hc4⟩:=hcc;have hcd:=hc4;obtain⟨hcd1,hcd2,hcd3⟩:=hcd;have hqq:=hq;obtain⟨hq1,hq2,hq3,hq4⟩:=hqq;have hqd:=hq4;obtain⟨hqd1,hqd2,hqd3⟩:=hqd;have e0:=Bi_.eq_1 c q a;generalize Bi_ c q a=z at e0 ⊢;refine gm tv49 19 [0,1,2,3,4] fun B2=>?_;refine ef (ecallo 5 (B9_ _ _ _ _) rfl rfl ?_);generalize hr9:D_ c a.n a.how a.upto=r;intro u8 w7;have e10:=e0.trans (If_ hr9.symm);have hr9:=hr9.symm;have hA10:=J0_ c a.n a.how a.upto
  (try rw[<- hr9] at hA10)
  refine gx tv49 16 ?_;refine cV e10 R4_ (Iy_ _ _ _ _) rfl fun r1 hr12 e14 w13=>?_;have hA14:=Rw_ q a.n a.how a.upto
  (try rw[<- hr12] at hA14)
  refine gx tv49 10 ?_;refine so_osl (t:=38) 5 rfl rfl ?_;refine so_osl (t:=24) 5 rfl rfl ?_;refine so_osl (t:=9) 5 rfl rfl ?_;refine give 5 rfl ?_;refine cV e14 R6_ (I4_ _) rfl fun r2 hr16 e18 w17=>?_;have hA18:=Sp_ r.1
  (try rw[<- hr16] at hA18)
  refine gx tv49 16 ?_;refine callg rfl (fun hc=>(Iu_ _ _)) rfl ⟨(fun hc=>hc),(fun hc=>hc),trivial⟩ rfl rfl fun _=>?_;refine gy tv49 4 ?_;refine cE e18 (fun h20 e21=>?_) (fun h20 e27=>?_)
  · refine gx tv49 1 ?_;refine aN [3,4,5,6,7,8,9,10] 5 mixd ?_;refine gX tv49 [0,1] 3 ?_;refine vE 2 rfl (sA tv49 ?_);refine vT 3 rfl (sA tv49 ?_);refine gX tv49 [4] 0 ?_;refine vD ?_;refine gx tv49 3 ?_;subst e21;exact qr3
  have h22:=orl h20;have h23:=Bb_ h22;have p24:=dt h23;have h25:=orr h20;have h26:=Bb_ h25;refine gy tv49 11 ?_;refine cD e27 (fun p29 e30=>?_) (fun p37 e38=>?_)
  · refine gx tv49 1 ?_;refine aN [3,4,5,6,7,8,9,10] 9 mixd ?_;refine gX tv49 [0,1,3,4] 5 ?_;refine vE 2 rfl (eC (Dx_ _ _) rfl ?_);generalize hr32:Ao_ c r.1=r3;intro w31;have e33:=e30.trans (If_ hr32.symm);refine vE 5 rfl (eC (Mu_ _ _) rfl ?_);generalize hr35:E7_ q r1.1=r4;intro w34;have e36:=e33.trans (If_ hr35.symm);refine vE 6 rfl (sA tv49 ?_);refine vT 7 rfl (sA tv49 ?_);refine gX tv49 [8] 0 ?_;refine vD ?_;refine gx tv49 3 ?_;subst e36;exact qr3
  refine gx tv49 6 ?_;refine cV e38 R7_ (Ds_ _ _) rfl fun r5 hr39 e41 w40=>?_;refine gm tv49 11 [] fun _=>?_;refine cV e41 R7_ (Hx_ _ _) rfl fun r6 hr43 e45 w44=>?_;refine gm tv49 8 [] fun _=>?_;refine aN [3,4,5,6,7,8,9,10] 8 mixd ?_;refine gX tv49 [0,1,2,3,4] 3 ?_;refine vE 5 rfl (sA tv49 ?_);refine vtp 6 rfl (by kernel_rfl) (by kernel_rfl) (sA tv49 ?_);refine gX tv49 [7] 0 ?_;refine vD ?_;refine gx tv49 2 ?_;subst e45;exact qr3
theorem M8_ (c:ChanR) (q:ChanR) (a:ActR) (hc:COk c 100:=by first|assumption|exact Fl_ (by assumption) (by omega)) (hq:COk q 100:=by first|assumption|exact Fl_ (by assumption) (by omega)) (hl:a.l.length<=1000:=by omega):Fn Tryz.prog gb 13 [.agg (ChanR.pc c), .agg (ChanR.pc q), .agg (ActR.pc a)] (.tup [.agg (ChanR.pc ((Cg_ c q a).1)), .agg (ChanR.pc ((Cg_ c q a).2.1)), .bool ((Cg_ c q a).2.2)]):=by
  refine fC Tryz.func13 tv49 Tryz.ntmps13 fun w N H hG=>?_;have c_credit_r:-9223372036854775808<=c.credit/\c.credit<=9223372036854775807:=w.1.1;have c_takers_l:c.takers.length<=140737488355328:=w.1.2.1.1;have c_lent_l:c.lent.length<=140737488355328:=w.1.2.2.1.1;have c_puts_r:0<=c.puts/\c.puts<=18446744073709551615:=w.1.2.2.2.2.2.1;have c_held_l_l:c.held.l.length<=140737488355328:=w.1.2.2.2.2.2.2.1.1;have q_credit_r:-9223372036854775808<=q.credit/\q.credit<=9223372036854775807:=w.2.1.1;have q_takers_l:q.takers.length<=140737488355328:=w.2.1.2.1.1;have q_lent_l:q.lent.length<=140737488355328:=w.2.1.2.2.1.1;have q_puts_r:0<=q.puts/\q.puts<=18446744073709551615:=w.2.1.2.2.2.2.2.1;have q_held_l_l:q.held.l.length<=140737488355328:=w.2.1.2.2.2.2.2.2.1.1;have a_dow_r:0<=a.dow/\a.dow<=255:=w.2.2.1.1;have a_n_r:0<=a.n/\a.n<=18446744073709551615:=w.2.2.1.2.1;have a_how_r:0<=a.how/\a.how<=18446744073709551615:=w.2.2.1.2.2.1;have a_queue_l:a.queue.length<=9223372036854775807:=w.2.2.1.2.2.2.1;have a_l_l:a.l.length<=140737488355328:=w.2.2.1.2.2.2.2.2.1.1;have hcc:=hc;obtain⟨hc1,hc2,hc3,hc4⟩:=hcc;have hcd:=hc4;obtain⟨hcd1,hcd2,hcd3⟩:=hcd;have hqq:=hq;obtain⟨hq1,hq2,hq3,hq4⟩:=hqq;have hqd:=hq4;obtain⟨hqd1,hqd2,hqd3⟩:=hqd;have e0:=Cg_.eq_1 c q a;generalize Cg_ c q a=z at e0 ⊢;refine gmy tv49 31 [0,1,2,3,4] fun B2=>?_;refine cD e0 (fun p8 e9=>?_) (fun p20 e21=>?_)
  · refine gx tv49 5 ?_;refine cV e9 R7_ (Dd_ _ _) rfl fun r hr10 e12 w11=>?_;have hA12:=Qu_ c a.n
    (try rw[<- hr10] at hA12)
    have hA13:=fun h=>Jk_ (c:=c) (n:=0) a.n h
    (try rw[<- hr10] at hA13)
    (try have hA13b:=hA13 (by first|assumption|omega|exact Gl_|(simp;done)))
    refine gm tv49 11 [] fun _=>?_;refine cV e12 R7_ (Kd_ _ _) rfl fun r1 hr16 e18 w17=>?_;refine gm tv49 9 [] fun _=>?_;refine aN [3,4,5,6,7,8,9,10] 8 mixd ?_;refine gX tv49 [0,1,2,3,4] 3 ?_;refine vE 5 rfl (sA tv49 ?_);refine vtp 6 rfl (by kernel_rfl) (by kernel_rfl) (sA tv49 ?_);refine gX tv49 [7] 0 ?_;refine vD ?_;refine gx tv49 2 ?_;subst e18;exact qr3
  refine gx tv49 6 ?_;refine cD e21 (fun p23 e24=>?_) (fun p33 e34=>?_)
  · refine gx tv49 7 ?_;refine cV e24 R7_ (F3_ _ _ _) rfl fun r2 hr25 e27 w26=>?_;refine gm tv49 13 [] fun _=>?_;refine cV e27 R7_ (Ml_ _ _ _) rfl fun r3 hr29 e31 w30=>?_;refine gm tv49 9 [] fun _=>?_;refine aN [3,4,5,6,7,8,9,10] 8 mixd ?_;refine gX tv49 [0,1,2,3,4] 3 ?_;refine vE 5 rfl (sA tv49 ?_);refine vtp 6 rfl (by kernel_rfl) (by kernel_rfl) (sA tv49 ?_);refine gX tv49 [7] 0 ?_;refine vD ?_;refine gx tv49 2 ?_;subst e31;exact qr3
  refine gx tv49 6 ?_;refine cD e34 (fun p36 e37=>?_) (fun p46 e47=>?_)
  · refine gx tv49 5 ?_;refine cV e37 R7_ (Fx_ _ _) rfl fun r4 hr38 e40 w39=>?_;refine gm tv49 11 [] fun _=>?_;refine cV e40 R7_ (Li_ _ _) rfl fun r5 hr42 e44 w43=>?_;refine gm tv49 9 [] fun _=>?_;refine aN [3,4,5,6,7,8,9,10] 8 mixd ?_;refine gX tv49 [0,1,2,3,4] 3 ?_;refine vE 5 rfl (sA tv49 ?_);refine vtp 6 rfl (by kernel_rfl) (by kernel_rfl) (sA tv49 ?_);refine gX tv49 [7] 0 ?_;refine vD ?_;refine gx tv49 2 ?_;subst e44;exact qr3
  refine gx tv49 6 ?_;refine cD e47 (fun p49 e50=>?_) (fun p58 e59=>?_)
  · refine aN [0,5,6,7,8,9,10] 16 mixd ?_;refine gX tv49 [1,2,3,4,5,7,8,9,10,11,12] 5 ?_;refine vE 0 rfl (eq1 tv49 rfl rfl trivial (fun _ h=>by cases h;rfl) ?_);refine vE 6 rfl (eC (Cr_ _ (⟨a.n,a.queue⟩:LentR)) rfl ?_);generalize hr52:Z_ c (⟨a.n,a.queue⟩:LentR)=r6;intro w51;have e53:=e50.trans (If_ hr52.symm);have hr52:=hr52.symm
    (try have hA53:=Jt_ (c:=c) (⟨a.n,a.queue⟩:LentR) (by assumption);(try rw[<- hr52] at hA53))
    refine vE 13 rfl (eC (Nj_ _ (⟨a.n,a.queue⟩:LentR)) rfl ?_);generalize hr56:E9_ q (⟨a.n,a.queue⟩:LentR)=r7;intro w55;have e57:=e53.trans (If_ hr56.symm);refine vE 14 rfl (sA tv49 ?_);refine vT 15 rfl (sA tv49 ?_);refine vD ?_;refine gx tv49 3 ?_;refine aN [3,4,5,6,7,8,9,10] 8 mixd ?_;refine gX tv49 [0,1,2,3,4] 3 ?_;refine vE 5 rfl (sA tv49 ?_);refine vtp 6 rfl (by kernel_rfl) (by kernel_rfl) (sA tv49 ?_);refine gX tv49 [7] 0 ?_;refine vD ?_;refine gx tv49 2 ?_;subst e57;exact qr3
  refine gx tv49 1 ?_;obtain⟨o,e_o,q_o⟩:=Hv_ e59;refine Pe_ (ι:=Bool) [3,4,5,6,7,8,19] [0,1,2,3,4] (fun v=>[(98, .bool v)]) (fun v=>[]) (fun v=>o=v) ?_ ?_
  · refine gx tv49 6 ?_;refine cD e_o (fun p61 e62=>?_) (fun p63 e64=>?_)
    · refine gx tv49 1 ?_;refine nX (decide ((a.dow%11)=4)) ?_ ⟨rfl,trivial⟩ trivial;exact e62
    refine gx tv49 4 ?_;refine nX (decide ((a.dow%11)=8)) ?_ ⟨rfl,trivial⟩ trivial;exact e64
  rintro v hp65;have e66:=Mn_ q_o hp65;refine gx tv49 1 ?_;refine cE e66 (fun h67 e68=>?_) (fun h67 e73=>?_)
  · refine gx tv49 5 ?_;refine cV e68 R8_ (Iv_ _ _ _) rfl fun r8 hr69 e71 w70=>?_;refine gm tv49 11 [] fun _=>?_;subst e71;exact qr3
  refine gx tv49 6 ?_;refine cD e73 (fun p75 e76=>?_) (fun p85 e86=>?_)
  · refine gx tv49 3 ?_;refine cV e76 R7_ (Gc_ _) rfl fun r9 hr77 e79 w78=>?_;refine gm tv49 9 [] fun _=>?_;refine cV e79 R7_ (Mi_ _) rfl fun r10 hr81 e83 w82=>?_;refine gm tv49 9 [] fun _=>?_;refine aN [3,4,5,6,7,8,9,10] 8 mixd ?_;refine gX tv49 [0,1,2,3,4] 3 ?_;refine vE 5 rfl (sA tv49 ?_);refine vtp 6 rfl (by kernel_rfl) (by kernel_rfl) (sA tv49 ?_);refine gX tv49 [7] 0 ?_;refine vD ?_;refine gx tv49 2 ?_;subst e83;exact qr3
  refine gx tv49 6 ?_;refine cD e86 (fun p88 e89=>?_) (fun p100 e101=>?_)
  · refine gx tv49 3 ?_;refine cV e89 R9_ (G1_ _) rfl fun r11 hr90 e92 w91=>?_;refine gm tv49 11 [5] fun B94=>?_;refine cV e92 R9_ (Pj_ _) rfl fun r12 hr95 e97 w96=>?_;refine gm tv49 9 [6] fun B99=>?_;refine aN [3,4,7,8,9,10,11,12] 8 mixd ?_;refine gX tv49 [0,1,2,3,4] 3 ?_;refine vE 5 rfl (sA tv49 ?_);refine vtp 6 rfl (by kernel_rfl) (by kernel_rfl) (sA tv49 ?_);refine gX tv49 [7] 0 ?_;refine vD ?_;refine gx tv49 4 ?_;subst e97;exact qr3
  refine gx tv49 6 ?_;refine cD e101 (fun p103 e104=>?_) (fun p113 e114=>?_)
  · refine gx tv49 3 ?_;refine cV e104 R7_ (Fu_ _) rfl fun r13 hr105 e107 w106=>?_;refine gm tv49 9 [] fun _=>?_;refine cV e107 R7_ (L4_ _) rfl fun r14 hr109 e111 w110=>?_;refine gm tv49 9 [] fun _=>?_;refine aN [3,4,5,6,7,8,9,10] 8 mixd ?_;refine gX tv49 [0,1,2,3,4] 3 ?_;refine vE 5 rfl (sA tv49 ?_);refine vtp 6 rfl (by kernel_rfl) (by kernel_rfl) (sA tv49 ?_);refine gX tv49 [7] 0 ?_;refine vD ?_;refine gx tv49 2 ?_;subst e111;exact qr3
  refine gx tv49 6 ?_;refine cD e114 (fun p116 e117=>?_) (fun p130 e131=>?_)
  · refine gx tv49 4 ?_;refine cV e117 R6_ (I4_ _) rfl fun r15 hr118 e120 w119=>?_;have hA120:=Sp_ a.l
    (try rw[<- hr118] at hA120)
    refine gx tv49 12 ?_;refine cV e120 R7_ (Ds_ _ _) rfl fun r16 hr122 e124 w123=>?_;refine gm tv49 10 [] fun _=>?_;refine cV e124 R7_ (Hx_ _ _) rfl fun r17 hr126 e128 w127=>?_;refine gm tv49 9 [] fun _=>?_;refine aN [3,4,5,6,7,8,9,10] 8 mixd ?_;refine gX tv49 [0,1,2,3,4] 3 ?_;refine vE 5 rfl (sA tv49 ?_);refine vtp 6 rfl (by kernel_rfl) (by kernel_rfl) (sA tv49 ?_);refine gX tv49 [7] 0 ?_;refine vD ?_;refine gx tv49 2 ?_;subst e128;exact qr3
  refine gx tv49 3 ?_;refine cV e131 R7_ (F1_ _) rfl fun r18 hr132 e134 w133=>?_;refine gm tv49 9 [] fun _=>?_;refine cV e134 R7_ (M5_ _) rfl fun r19 hr136 e138 w137=>?_;refine gm tv49 9 [] fun _=>?_;refine aN [3,4,5,6,7,8,9,10] 8 mixd ?_;refine gX tv49 [0,1,2,3,4] 3 ?_;refine vE 5 rfl (sA tv49 ?_);refine vtp 6 rfl (by kernel_rfl) (by kernel_rfl) (sA tv49 ?_);refine gX tv49 [7] 0 ?_;refine vD ?_;refine gx tv49 2 ?_;subst e138;exact qr3
abbrev R13_:ChanR->PV:=fun r=> .agg (ChanR.pc r)
def tbv89:Tb:=[(4,ty4),(5,ty5),(9,ty9),(22,ty22),(26,ty26),(27,ty27),(28,ty28),(32,ty32),(36,ty36),(39,ty39),(53,ty53),(59,ty59)]
theorem tv89:tbB Tryz.prog tbv89=true:=by kernel_rfl
theorem l27_ChansOnce_ok (l:List ActR):Fn Tryz.prog gb 3 [.sl ActR.pc l] (.bool (Cn_ l)):=by
  refine fC Tryz.func3 tv89 Tryz.ntmps3 fun w N H hG=>?_;have l_l:l.length<=140737488355328:=w.1.1;have e0:=Cn_.eq_1 l;generalize Cn_ l=z at e0 ⊢;refine gx tv89 8 ?_;refine call Qc_ rfl rfl fun w1=>?_;refine gx tv89 3 ?_;refine cndF rfl rfl ?_;refine gx tv89 6 ?_;refine call (Le_ _) rfl rfl fun w2=>?_;refine gx tv89 3 ?_;refine cE e0 (fun h3 e5=>?_) (fun h3 e8=>?_)
  · have h4:=Bd_ h3;refine gx tv89 7 ?_;subst e5;exact qr1
  have h6:=Bb_ h3;have hb6:=R5_ h6
  (try obtain⟨hb6a,hb6b⟩:=hb6)
  refine gx tv89 4 ?_;refine cV e8 R13_ Hd_ rfl fun r hr9 e11 w10=>?_;have hA11:=cok_new 0
  (try rw[<- hr9] at hA11)
  refine gm tv89 6 [0] fun B14=>?_;refine ef (emap 1 rfl fun b15=>?_);refine gx tv89 18 ?_;refine loop (ι:=Nat×Int×Int×ChanR×(List (Int×Int))) [3,5,22,23] [] (fun ⟨k,lent,next_,x,mp⟩=>[(24, .int .i64 (k:Int)),(4, .int .i64 lent),(6, .int .u64 next_)]) (fun ⟨k,lent,next_,x,mp⟩=>[(0, .box (B14 0) 32 (ChanR.pc x)),(1, .ob b15 (mOb (fun z:Int=> .int .u64 z) (fun z:Int=> .int .i64 z) mp))]) (fun ⟨k,lent,next_,x,mp⟩=>k<=l.length/\z=Al_ r (l.drop k) lent next_ x mp/\COk x k/\(0<=lent/\lent<=k)/\MOk mp (100*k)) (fun ⟨k,lent,next_,x,mp⟩=>l.length-k) ⟨0,0,1,r,([]:List (Int×Int))⟩ ⟨rfl,rfl,rfl,trivial⟩ ⟨rfl,rfl,trivial⟩ ?_ ?_
  · exact⟨Nat.zero_le _,e11,⟨by assumption,by omega,mok_nil _⟩⟩
  rintro⟨k,lent,next_,x,mp⟩ ⟨hp16_1,hp16_2,hp16_3⟩;obtain⟨hd0,hd0n,hd0m⟩:=hp16_3;obtain⟨hdc1,hdc2,hdc3,hdc4⟩:=id hd0;obtain⟨hdcd1,hdcd2,hdcd3⟩:=id hdc4;have hdml:=hd0m.2;have hq0:COk ⟨0,[],[],false,false,0,⟨[]⟩⟩ k:=U8_ k;refine gx tv89 6 ?_;refine cnd rfl (fun h17=>?_) (fun h17=>?_)
  · have p18:=dt h17;have e19:=Bz_ (f:=fun zz=>Al_ r zz lent next_ x mp) hp16_2 (Ec_ (by omega)) (Al_.eq_2 _ _ _ _ _ _ _);refine gx tv89 3 ?_;obtain⟨o,e_o,q_o⟩:=Ls_ e19;refine Pe_ (ι:=Int×Int×ChanR×(List (Int×Int))) [3,5,22,23,24] [] (fun ⟨lent1,next_1,x1,mp1⟩=>[(4, .int .i64 lent1),(6, .int .u64 next_1)]) (fun ⟨lent1,next_1,x1,mp1⟩=>[(0, .box (B14 0) 32 (ChanR.pc x1)),(1, .ob b15 (mOb (fun z:Int=> .int .u64 z) (fun z:Int=> .int .i64 z) mp1))]) (fun ⟨lent1,next_1,x1,mp1⟩=>o = .fin (lent1,next_1,x1,mp1)/\COk x1 (k+1)/\(0<=lent1/\lent1<=k+1)/\MOk mp1 (100*(k+1))) ?_ ?_
    · have hc20:=getG (xs:=l) (k:=k) (by omega);have hn_hc20:0<=(gt l k).n/\(gt l k).n<=18446744073709551615:=(w.1.2 (gt l k) (List.mem_of_getElem? hc20)).2.1;have hm_hc20:=l27_mem (by assumption) (List.mem_of_getElem? hc20);have hw_hc20:0<=(gt l k).how/\(gt l k).how<=18446744073709551615:=(w.1.2 (gt l k) (List.mem_of_getElem? hc20)).2.2.1;have hd_hc20:0<=(gt l k).dow/\(gt l k).dow<=255:=(w.1.2 (gt l k) (List.mem_of_getElem? hc20)).1;refine gx tv89 3 ?_;refine q1 (qidx tv89 k rfl rfl rfl hc20 rfl rfl rfl rfl) rfl fun w21=>?_;refine gm tv89 6 [2] fun B23=>?_;obtain⟨o1,e_o1,q_o1⟩:=Ls_ e_o;refine Pe_ (ι:=Int×Int×ChanR×(List (Int×Int))) [3,5,22,23,24] [2] (fun ⟨lent2,next_2,x2,mp2⟩=>[(4, .int .i64 lent2),(6, .int .u64 next_2)]) (fun ⟨lent2,next_2,x2,mp2⟩=>[(0, .box (B14 0) 32 (ChanR.pc x2)),(1, .ob b15 (mOb (fun z:Int=> .int .u64 z) (fun z:Int=> .int .i64 z) mp2))]) (fun ⟨lent2,next_2,x2,mp2⟩=>o1 = .fin (lent2,next_2,x2,mp2)/\COk x2 (k+1)/\(0<=lent2/\lent2<=k+1)/\MOk mp2 (100*(k+1))) ?_ ?_
      · refine gy tv89 14 ?_;refine cD e_o1 (fun p25 e26=>?_) (fun p32 e33=>?_)
        · refine gx tv89 7 ?_;refine cV e26 R13_ (Cr_ _ (⟨next_,(gt l k).queue⟩:LentR)) rfl fun r1 hr27 e29 w28=>?_
          (try have hA29:=Jt_ (c:=x) (⟨next_,(gt l k).queue⟩:LentR) (by assumption);(try rw[<- hr27] at hA29))
          have :=Kw_ (next_+1);refine gmy tv89 16 [] fun _=>?_;refine nX ⟨(lent+1),(IntKind.wrap .u64 (next_+1)),r1,mp⟩ ?_ ⟨rfl,rfl,trivial⟩ ⟨rfl,rfl,trivial⟩;exact⟨e29,⟨by first|assumption|exact Fl_ (by assumption) (by omega),by omega,by first|assumption|exact Ho_ (by assumption) (by omega)⟩⟩
        refine gx tv89 6 ?_;refine cD e33 (fun p35 e36=>?_) (fun p93 e94=>?_)
        · refine gx tv89 9 ?_;refine ef (ecallo 3 (B9_ _ _ _ _) rfl rfl ?_);generalize hr39:D_ x ((gt l k).n) ((gt l k).how) ((gt l k).upto)=r2;intro u38 w37;have e40:=e36.trans (If_ hr39.symm);have hr39:=hr39.symm;have hA40:=J0_ x ((gt l k).n) ((gt l k).how) ((gt l k).upto)
          (try rw[<- hr39] at hA40)
          refine gx tv89 9 ?_;refine sw_osl (t:=9) 3 rfl rfl ?_;refine sw_osl (t:=62) 3 rfl rfl ?_;refine givec 3 rfl ?_;refine aN [4,5,6,7,8,9] 29 mixd ?_;refine gXy tv89 [0,1,2,3,4,5,6,7,8,9,10] 18 ?_;refine vqg 11 [71,74] rfl (by kernel_rfl) rfl rfl (fun hc=>qidx tv89 (((r2.1.length:Int)-1)).toNat rfl rfl (by first|omega|(simp only[gOf,bl2] at *;omega)) (getG (by first|omega|(simp only[gOf,bl2] at *;omega))) rfl rfl rfl rfl) ⟨(fun hc=>hc),(fun hc=>hc),trivial⟩ rfl fun _=>?_;refine gXy tv89 [12,13,14,15,16,17,18,19,20,21,22,23,24,25,26,27,28] 0 ?_;refine vD ?_;refine gx tv89 1 ?_;refine cE e40 (fun h42 e46=>?_) (fun h42 e49=>?_)
          · have h43:=bl h42;have p44:=dt h43;have h45:=br h42;refine gx tv89 16 ?_;have e47:=Fp_ q_o1 e46;have e48:=Fp_ q_o e47;subst e48;exact qr1
          refine gx tv89 11 ?_;refine loop (ι:=Nat×(List (Int×Int))) [3,4,5,6,8,9,22,23,24,93,94] [0,2] (fun ⟨k1,mp3⟩=>[(95, .int .i64 (k1:Int))]) (fun ⟨k1,mp3⟩=>[(1, .ob b15 (mOb (fun z:Int=> .int .u64 z) (fun z:Int=> .int .i64 z) mp3))]) (fun ⟨k1,mp3⟩=>k1<=r2.1.length/\o1=K_ lent next_ x r2 (gt l k) (r2.1.drop k1) mp3/\MOk mp3 (100*k+k1)) (fun ⟨k1,mp3⟩=>r2.1.length-k1) ⟨0,mp⟩ ⟨rfl,trivial⟩ ⟨rfl,trivial⟩ ?_ ?_
          · exact⟨Nat.zero_le _,e49,Ho_ (by assumption) (by omega)⟩
          rintro⟨k1,mp3⟩ ⟨hp50_1,hp50_2,hp50_3⟩;have hd1m:=hp50_3;have hd1l:=hd1m.2;refine gx tv89 6 ?_;refine cn rfl (fun p52=>?_) fun p70=>?_
          · have e53:=Bz_ (f:=fun zz=>K_ lent next_ x r2 (gt l k) zz mp3) hp50_2 (Ec_ (by omega)) (K_.eq_2 _ _ _ _ _ _ _ _);have hc54:=getG (xs:=r2.1) (k:=k1) (by omega);refine gx tv89 6 ?_;refine q1 (qidx tv89 k1 rfl rfl rfl hc54 rfl rfl rfl rfl) rfl fun w55=>?_;refine gm tv89 10 [3] fun B57=>?_;refine ef (Wd_ (p:=(.int .i64 ((mget ((gt r2.1 k1).id) mp3).getD 0))) (ev':=(fun z:Int=> .int .i64 z)) (key:=((gt r2.1 k1).id)) (xs:=mp3) 1 (Te_ .u64) rfl (fun _ _ h=>h.inv_int.1) Tryz.underlying34 Tryz.underlying27 (fun _=>rfl) rfl (fun H=>Os_ (by first|assumption|exact T8_ (by assumption))) rfl rfl fun w58=>?_);have hml58:=Sq_ (show MW mp3 from by first|assumption|exact T8_ (by assumption)) ((gt r2.1 k1).id);refine gy tv89 1 ?_;refine ef (emupd (ev':=(fun z:Int=> .int .i64 z)) (key:=((gt r2.1 k1).id)) (v:=(((mget ((gt r2.1 k1).id) mp3).getD 0)+1)) (xs:=mp3) 1 (Te_ .u64) rfl (fun _ _ h=>h.inv_int.1) (fun _ _ h=>h.inv_int.1) Tryz.underlying34 Tryz.underlying27 rfl ?_);have hmw59:=mw_set (by assumption) ((gt r2.1 k1).id);refine gx tv89 7 ?_;refine ef (Wd_ (p:=(.int .i64 ((mget ((gt r2.1 k1).id) (mset ((gt r2.1 k1).id) (((mget ((gt r2.1 k1).id) mp3).getD 0)+1) mp3)).getD 0))) (ev':=(fun z:Int=> .int .i64 z)) (key:=((gt r2.1 k1).id)) (xs:=(mset ((gt r2.1 k1).id) (((mget ((gt r2.1 k1).id) mp3).getD 0)+1) mp3)) 1 (Te_ .u64) rfl (fun _ _ h=>h.inv_int.1) Tryz.underlying34 Tryz.underlying27 (fun _=>rfl) rfl (fun H=>Os_ (by first|assumption|exact T8_ (by assumption))) rfl rfl fun w61=>?_);have hml61:=Sq_ (show MW (mset ((gt r2.1 k1).id) (((mget ((gt r2.1 k1).id) mp3).getD 0)+1) mp3) from by first|assumption|exact T8_ (by assumption)) ((gt r2.1 k1).id)
            refine gx tv89 3 ?_;refine cD e53 (fun p64 e65=>?_) (fun p68 e69=>?_)
            · refine gx tv89 20 ?_;have e66:=Fp_ q_o1 e65;have e67:=Fp_ q_o e66;subst e67;exact qr1
            refine gy tv89 7 ?_;refine next ⟨(k1+1),(mset ((gt r2.1 k1).id) (((mget ((gt r2.1 k1).id) mp3).getD 0)+1) mp3)⟩ rfl rfl ⟨rfl,trivial⟩ ⟨rfl,trivial⟩ ?_ ?_
            · (try simp only[]);omega
            exact⟨by (try simp only[]);omega,e69,Ho_ (mok_set (by assumption) (by assumption)) (by omega)⟩
          have e71:=Bz_ (f:=fun zz=>K_ lent next_ x r2 (gt l k) zz mp3) hp50_2 (D5_ (by omega)) (K_.eq_1 _ _ _ _ _ _);refine gx tv89 9 ?_;refine cV e71 R13_ (Dx_ _ _) rfl fun r3 hr72 e74 w73=>?_;have hA74:=J5_ (c:=x) r2.1 (by assumption)
          (try rw[<- hr72] at hA74)
          have hA75:=(J5_ (c:=x) r2.1 (by assumption)).ln
          (try rw[<- hr72] at hA75)
          refine gm tv89 8 [] fun _=>?_;refine ef (ecallo 3 (B9_ _ _ _ _) rfl rfl ?_);generalize hr80:D_ r3 ((gt l k).n) 0 false=r4;intro u79 w78;have e81:=e74.trans (If_ hr80.symm);have hr80:=hr80.symm;have hA81:=J0_ r3 ((gt l k).n) 0 false
          (try rw[<- hr80] at hA81)
          refine gy tv89 18 ?_;refine cE e81 (fun h83 e89=>?_) (fun h83 e92=>?_)
          · have h84:=bl h83;have h85:=Bd_ h84;have p86:=df h85;have h87:=br h83;have p88:=dt h87;refine gx tv89 15 ?_;have e90:=Fp_ q_o1 e89;have e91:=Fp_ q_o e90;subst e91;exact qr1
          refine gx tv89 2 ?_;refine nX ⟨lent,next_,r3,mp3⟩ ?_ ⟨rfl,rfl,trivial⟩ ⟨rfl,rfl,trivial⟩;exact⟨e92,⟨by first|assumption|exact Fl_ (by assumption) (by omega),by omega,by first|assumption|exact Ho_ (by assumption) (by omega)⟩⟩
        refine gx tv89 6 ?_;refine cD e94 (fun p96 e97=>?_) (fun p98 e99=>?_)
        · refine gx tv89 2 ?_;refine nX ⟨lent,next_,x,mp⟩ ?_ ⟨rfl,rfl,trivial⟩ ⟨rfl,rfl,trivial⟩;exact⟨e97,⟨by first|assumption|exact Fl_ (by assumption) (by omega),by omega,by first|assumption|exact Ho_ (by assumption) (by omega)⟩⟩
        refine gx tv89 4 ?_;refine cV e99 R8_ (M8_ _ (⟨0,[],[],false,false,0,(⟨[]⟩:Ai_)⟩:ChanR) _) rfl fun r5 hr100 e102 w101=>?_;have hA102:=(S0_ (c:=x) (q:=(⟨0,[],[],false,false,0,(⟨[]⟩:Ai_)⟩:ChanR)) (a:=(gt l k)) (by assumption) (by assumption) (by omega)).1
        (try rw[<- hr100] at hA102)
        have hA103:=(S0_ (c:=x) (q:=(⟨0,[],[],false,false,0,(⟨[]⟩:Ai_)⟩:ChanR)) (a:=(gt l k)) (by assumption) (by assumption) (by omega)).2
        (try rw[<- hr100] at hA103)
        refine gm tv89 7 [] fun _=>?_;refine nX ⟨lent,next_,r5.1,mp⟩ ?_ ⟨rfl,rfl,trivial⟩ ⟨rfl,rfl,trivial⟩;exact⟨e102,⟨by first|assumption|exact Fl_ (by assumption) (by omega),by omega,by first|assumption|exact Ho_ (by assumption) (by omega)⟩⟩
      rintro⟨lent2,next_2,x2,mp2⟩ ⟨hp106,hp106_3⟩;obtain⟨hj0,hj1,hj2⟩:=hp106_3;have hj0l:=hj0.ln;have hj2l:=hj2.2;have e107:=S9_ q_o1 hp106;refine gx tv89 4 ?_;refine cV e107 R3_ (Em_ _) rfl fun r6 hr108 e110 w109=>?_;have hA110:=uns_len x2
      (try rw[<- hr108] at hA110)
      refine gx tv89 2 ?_;refine ef (emlen (ek:=(fun z:Int=> .int .u64 z)) (ev':=(fun z:Int=> .int .i64 z)) (xs:=mp2) 1 rfl Tryz.underlying34 rfl (by omega) rfl ?_);refine gy tv89 5 ?_;refine cN e110 (fun p114 e115=>?_) (fun p118 e119=>?_)
      · refine gx tv89 12 ?_;have e116:=Fp_ q_o e115;subst e116;exact qr1
      refine gx tv89 2 ?_;refine nX ⟨lent2,next_2,x2,mp2⟩ ?_ ⟨rfl,rfl,trivial⟩ ⟨rfl,rfl,trivial⟩;exact⟨e119,⟨by first|assumption|exact Fl_ (by assumption) (by omega),by omega,by first|assumption|exact Ho_ (by assumption) (by omega)⟩⟩
    rintro⟨lent1,next_1,x1,mp1⟩ ⟨hp120,hp120_3⟩;obtain⟨hj0,hj1,hj2⟩:=hp120_3;have hj0l:=hj0.ln;have hj2l:=hj2.2;have e121:=S9_ q_o hp120;refine gy tv89 5 ?_;refine next ⟨(k+1),lent1,next_1,x1,mp1⟩ rfl rfl ⟨rfl,rfl,rfl,trivial⟩ ⟨rfl,rfl,trivial⟩ ?_ ?_
    · (try simp only[]);omega
    exact⟨by (try simp only[]);omega,e121,⟨by assumption,by omega,by assumption⟩⟩
  have p122:=df h17;have e123:=Bz_ (f:=fun zz=>Al_ r zz lent next_ x mp) hp16_2 (D5_ (by omega)) (Al_.eq_1 _ _ _ _ _);refine gx tv89 11 ?_;subst e123;exact qr1
end Go.SW.V
namespace Go.SW
open Go.ChangeShapes Go.WideShapes Go.ChangeAt Go.RowKit
variable {P:Program}
end Go.SW
namespace Go.SW.V
open Go.SW
def dL (d:DeedR):LentR:=⟨d.id,d.name⟩
theorem Jo_ {c:ChanR} (i w:Int) (u:Bool):∀ (l:List LentR) (out:List DeedR),((C_ c i w u l out).1.map DeedR.id).Sublist (out.map DeedR.id++l.map LentR.id)
  |[],out=>by simp[C_]
  |x::l,out=>by
    have h1:=Jo_ (c:=c) i w u l out
    have h2:=Jo_ (c:=c) i w u l (out++[(⟨8,0,⟨[],0,[]⟩,⟨[],0,0,[]⟩,⟨[],[],false,[],[],false⟩,x.queue,x.id,IntKind.wrap .u8 w,0,0,0,⟨0,[],[],[],[],0,0⟩,[]⟩:DeedR)])
    simp only[C_,Bool.cond_eq_ite]
    split
    · exact h1.trans (List.Sublist.append_left (List.sublist_cons_self _ _) _)
    · split
      · simp only[List.map_append,List.map_cons,List.map_nil]
        exact List.Sublist.append_left (List.Sublist.cons_cons _ (List.nil_sublist _)) _
      · simpa using h2
theorem Jn_ {c:ChanR} (i w:Int) (u:Bool):∀ (l:List LentR) (out:List DeedR),∀ d∈(C_ c i w u l out).1,d∈out\/(dL d∈l/\d.kind=8)
  |[],out,d,h=>by simp[C_] at h
  |x::l,out,d,h=>by
    have h1:=Jn_ (c:=c) i w u l out d
    have h2:=Jn_ (c:=c) i w u l (out++[(⟨8,0,⟨[],0,[]⟩,⟨[],0,0,[]⟩,⟨[],[],false,[],[],false⟩,x.queue,x.id,IntKind.wrap .u8 w,0,0,0,⟨0,[],[],[],[],0,0⟩,[]⟩:DeedR)]) d
    have hx:∀ z:DeedR,z=(⟨8,0,⟨[],0,[]⟩,⟨[],0,0,[]⟩,⟨[],[],false,[],[],false⟩,x.queue,x.id,IntKind.wrap .u8 w,0,0,0,⟨0,[],[],[],[],0,0⟩,[]⟩:DeedR)->dL z∈x::l/\z.kind=8:=fun z e=>by subst e;exact⟨List.mem_cons_self,rfl⟩
    revert h
    simp only[C_,Bool.cond_eq_ite]
    split
    · intro h
      rcases h1 h with q|⟨q,z⟩
      · exact .inl q
      · exact .inr ⟨List.mem_cons_of_mem _ q,z⟩
    · split
      · intro h
        rcases List.mem_append.1 h with q|q
        · exact .inl q
        · exact .inr (hx d (List.mem_singleton.1 q))
      · intro h
        rcases h2 h with q|⟨q,z⟩
        · rcases List.mem_append.1 q with q|q
          · exact .inl q
          · exact .inr (hx d (List.mem_singleton.1 q))
        · exact .inr ⟨List.mem_cons_of_mem _ q,z⟩
theorem Hy_ {c:ChanR} (i w:Int) (u:Bool):∀ (l:List LentR) (out:List DeedR),(C_ c i w u l out).2=0->∃ f d,(C_ c i w u l out).1=f++[d]/\d.id=i/\(u=false->f=out)
  |[],out,h=>by simp[C_] at h
  |x::l,out,h=>by
    have h1:=Hy_ (c:=c) i w u l out
    have h2:=Hy_ (c:=c) i w u l (out++[(⟨8,0,⟨[],0,[]⟩,⟨[],0,0,[]⟩,⟨[],[],false,[],[],false⟩,x.queue,x.id,IntKind.wrap .u8 w,0,0,0,⟨0,[],[],[],[],0,0⟩,[]⟩:DeedR)])
    revert h
    simp only[C_,Bool.cond_eq_ite]
    split
    · exact h1
    · rename_i hc
      split
      · rename_i e
        intro _
        exact⟨out,_,rfl,by simpa using e,fun _=>rfl⟩
      · rename_i e
        intro h
        obtain⟨f,d,a,b,g⟩:=h2 h
        refine⟨f,d,a,b,fun hu=>?_⟩
        exfalso
        apply hc
        have e':¬x.id=i:=by simpa using e
        simp[hu,e']
theorem J8_ {c:ChanR} (i w:Int) (u:Bool):∀ (l:List LentR) (out:List DeedR),(C_ c i w u l out).2≠0->(C_ c i w u l out).1=[]
  |[],out,h=>by simp[C_]
  |x::l,out,h=>by
    have h1:=J8_ (c:=c) i w u l out
    have h2:=J8_ (c:=c) i w u l (out++[(⟨8,0,⟨[],0,[]⟩,⟨[],0,0,[]⟩,⟨[],[],false,[],[],false⟩,x.queue,x.id,IntKind.wrap .u8 w,0,0,0,⟨0,[],[],[],[],0,0⟩,[]⟩:DeedR)])
    revert h
    simp only[C_,Bool.cond_eq_ite]
    split
    · exact h1
    · split
      · intro h;exact absurd rfl h
      · exact h2
theorem Qy_ {c:ChanR} (i w:Int):∀ (l:List LentR) (out:List DeedR),(∀ y∈l,y.id≠i)->(C_ c i w false l out).2=10
  |[],out,_=>rfl
  |x::l,out,h=>by
    have hx:=h x List.mem_cons_self
    simp only[C_,hx,decide_false,Bool.not_false,Bool.and_true,Bool.or_true,cond_true]
    exact Qy_ i w l out fun y hy=>h y (List.mem_cons_of_mem _ hy)
theorem H1_ (y:LentR):∀ l:List LentR,(l.map LentR.id).Nodup->y∈l->cutL y l=l.filter (fun z=>!decide (z.id=y.id))/\(cutL y l).length+1=l.length
  |[],_,h=>by cases h
  |x::l,hn,h=>by
    simp only[List.map_cons,List.nodup_cons] at hn
    by_cases e:y=x
    · subst e
      have hf:l.filter (fun z=>!decide (z.id=y.id))=l:=by
        rw[List.filter_eq_self]
        intro z hz
        have :z.id≠y.id:=fun q=>hn.1 (by rw[<- q];exact List.mem_map_of_mem hz)
        simp[this]
      simp[cutL,hf]
    · have hy:y∈l:=by
        rcases List.mem_cons.1 h with q|q
        · exact absurd q e
        · exact q
      obtain⟨i1,i2⟩:=H1_ y l hn.2 hy
      have hne:¬x.id=y.id:=fun q=>hn.1 (by rw[q];exact List.mem_map_of_mem hy)
      simp only[cutL,if_neg e,List.filter_cons,hne,decide_false,Bool.not_false,if_true,i1,List.length_cons]
      exact⟨trivial,by rw[<- i1];omega⟩
theorem Sw_ {y:LentR}:∀ {l:List LentR},y∈l->0<=idxP (fun z=>decide (y=z)) l
  |[],h=>by cases h
  |x::l,h=>by
    rw[K5_]
    by_cases e:y=x
    · simp[e]
    · have hy:y∈l:=by
        rcases List.mem_cons.1 h with q|q
        · exact absurd q e
        · exact q
      have :=Sw_ hy
      simp only[e,decide_false,Bool.false_eq_true,if_false]
      rw[if_neg (by omega)];omega
theorem Kq_:∀ (s:List DeedR) (x:ChanR),(x.lent.map LentR.id).Nodup->(s.map DeedR.id).Nodup->(∀ d∈s,dL d∈x.lent/\d.kind=8) ->
    (E_ s x).lent=x.lent.filter (fun z=>!(s.any fun d=>decide (z.id=d.id)))/\(E_ s x).lent.length+s.length=x.lent.length
  |[],x,_,_,_=>by
    have :x.lent.filter (fun _=>true)=x.lent:=List.filter_eq_self.2 fun _ _=>rfl
    simp[E_,this]
  |d::s,x,hn,hs,hm=>by
    obtain⟨m1,m2⟩:=hm d List.mem_cons_self
    simp only[List.map_cons,List.nodup_cons] at hs
    have hi:=Sw_ m1
    have hc:=(P9_ (dL d) x.lent).2 hi
    obtain⟨f1,f2⟩:=H1_ (dL d) x.lent hn m1
    simp only[E_,lt]
    rw [show (decide (d.kind=8) && decide (0<=idxP (fun y=>decide ((⟨d.id,d.name⟩:LentR)=y)) x.lent))=true by
      rw[Bool.and_eq_true];exact⟨by simp[m2],decide_eq_true hi⟩,cond_true]
    have hl:[(x.lent.take (idxP (fun y=>decide ((⟨d.id,d.name⟩:LentR)=y)) x.lent).toNat),(x.lent.drop ((idxP (fun y=>decide ((⟨d.id,d.name⟩:LentR)=y)) x.lent+1)).toNat)].flatten=cutL (dL d) x.lent:=by
      rw[hc];simp only[List.flatten_cons,List.flatten_nil,List.append_nil];rfl
    obtain ⟨g1,g2⟩:=Kq_ s ⟨x.credit,x.takers,cutL (dL d) x.lent,x.sure,x.drafts,x.puts,x.held⟩ (by
        show ((cutL (dL d) x.lent).map LentR.id).Nodup
        rw[f1];exact (List.Sublist.map _ List.filter_sublist).nodup hn) hs.2 (fun e he=>by
        obtain⟨a,b⟩:=hm e (List.mem_cons_of_mem _ he)
        refine⟨?_,b⟩
        show dL e∈cutL (dL d) x.lent
        rw[f1]
        refine List.mem_filter.2 ⟨a,?_⟩
        have :e.id≠d.id:=fun q=>hs.1 (by rw[<- q];exact List.mem_map_of_mem he)
        simp[dL,this])
    rw[hl]
    refine⟨?_,?_⟩
    · rw[g1]
      show (cutL (dL d) x.lent).filter _=_
      rw[f1,List.filter_filter]
      congr 1
      funext z
      rw[List.any_cons,show decide (z.id=(dL d).id) = decide (z.id=d.id) from rfl]
      generalize decide (z.id=d.id)=b1
      generalize (s.any fun d=>decide (z.id=d.id))=b2
      cases b1<;>cases b2<;>rfl
    · have :(⟨x.credit,x.takers,cutL (dL d) x.lent,x.sure,x.drafts,x.puts,x.held⟩:ChanR).lent.length=(cutL (dL d) x.lent).length:=rfl
      simp only[List.length_cons]
      omega
theorem Qj_ {k:Int}:∀ {m:List (Int×Int)},(∀ p∈m,p.1≠k)->mget k m=none
  |[],_=>rfl
  |(a,v)::l,h=>by
    have :=h (a,v) List.mem_cons_self
    simp only[mget]
    rw[if_neg fun e=>this e.symm]
    exact Qj_ fun p hp=>h p (List.mem_cons_of_mem _ hp)
theorem Px_ {k v:Int}:∀ {m:List (Int×Int)},(∀ p∈m,p.1≠k)->mset k v m=m++[(k,v)]
  |[],_=>rfl
  |(a,w)::l,h=>by
    have :=h (a,w) List.mem_cons_self
    simp only[mset]
    rw[if_neg fun e=>this e.symm,Px_ fun p hp=>h p (List.mem_cons_of_mem _ hp)]
    rfl
theorem once1 {lent next :Int} {x:ChanR} {r2:List DeedR×Int} {y:ActR}:∀ (s:List DeedR) (m:List (Int×Int)),(∀ d∈s,∀ p∈m,p.1≠d.id)->(s.map DeedR.id).Nodup ->
    K_ lent next x r2 y s m=K_ lent next x r2 y [] (m++s.map fun d=>(d.id,1))
  |[],m,_,_=>by simp
  |d::s,m,h,hn=>by
    simp only[List.map_cons,List.nodup_cons] at hn
    have h0:=h d List.mem_cons_self
    have h1:=h0
    conv=>lhs;rw[K_]
    rw[J3_,Qj_ h1,Px_ h1]
    simp only[Option.getD_none,Option.getD_some]
    rw[show decide ((1:Int)<0+1)=false by decide,cond_false]
    rw [once1 s (m++[(d.id,0+1)]) (fun e he p hp=>by
      rcases List.mem_append.1 hp with q|q
      · exact h e (List.mem_cons_of_mem _ he) p q
      · rw[List.mem_singleton.1 q]
        exact fun z=>hn.1 (by rw[show d.id=e.id from z];exact List.mem_map_of_mem he)) hn.2]
    simp
theorem Ro_ {x q:ChanR} {a:ActR} (h3:¬a.dow%11=3) (h4:¬a.dow%11=4):(Cg_ x q a).1.lent=x.lent:=by
  simp only[Cg_,lt,lt1,h3,h4,decide_false,cond_false]
  have hset:(Bi_ x q a).1.lent=x.lent:=by
    simp only[Bi_,lt,h4,decide_false,Bool.cond_eq_ite,Bool.false_eq_true,if_false]
    split
    · rfl
    · simp only[L_,lt,Bool.cond_eq_ite];split<;>rfl
  have c1:(H_ x a.n).1.lent=x.lent:=by simp only[H_,Bool.cond_eq_ite];split<;>rfl
  have c2:(At_ x a.n a.queue).1.lent=x.lent:=by
    simp only[At_,lt,Bool.cond_eq_ite]
    repeat' split
    all_goals rfl
  have c3:(Ap_ x a.n).1.lent=x.lent:=by simp only[Ap_,lt,Bool.cond_eq_ite];split<;>rfl
  have c4:(Ax_ x).1.lent=x.lent:=by simp only[Ax_,Bool.cond_eq_ite];split<;>rfl
  have c5:(A6_ x).1.lent=x.lent:=by simp only[A6_,Bool.cond_eq_ite];split<;>rfl
  have c6:(Aq_ x).1.lent=x.lent:=by simp only[Aq_,Bool.cond_eq_ite];split<;>rfl
  have c7:(L_ x a.l).1.lent=x.lent:=by simp only[L_,lt,Bool.cond_eq_ite];split<;>rfl
  have c8:(Az_ x).1.lent=x.lent:=by simp only[Az_,Bool.cond_eq_ite];split<;>rfl
  refine K1_ (P:=fun r:ChanR×ChanR×Bool=>r.1.lent=x.lent) (fun _=>c1) fun _=>K1_ (P:=fun r:ChanR×ChanR×Bool=>r.1.lent=x.lent) (fun _=>c2) fun _=>K1_ (P:=fun r:ChanR×ChanR×Bool=>r.1.lent=x.lent) (fun _=>c3) fun _=>K1_ (P:=fun r:ChanR×ChanR×Bool=>r.1.lent=x.lent) (fun _=>hset) fun _=>K1_ (P:=fun r:ChanR×ChanR×Bool=>r.1.lent=x.lent) (fun _=>c4) fun _=>K1_ (P:=fun r:ChanR×ChanR×Bool=>r.1.lent=x.lent) (fun _=>c5) fun _=>K1_ (P:=fun r:ChanR×ChanR×Bool=>r.1.lent=x.lent) (fun _=>c6) fun _=>K1_ (P:=fun r:ChanR×ChanR×Bool=>r.1.lent=x.lent) (fun _=>c7) fun _=>c8
structure OI (x:ChanR) (n:Nat) (m:List (Int×Int)):Prop where
  nd:(x.lent.map LentR.id).Nodup
  rg:∀ y∈x.lent,1<=y.id/\y.id<=n
  mp:∀ p∈m,1<=p.1/\p.1<=n/\∀ y∈x.lent,y.id≠p.1
  ln:x.lent.length+m.length=n
theorem oi_same {x z:ChanR} {n:Nat} {m:List (Int×Int)} (h:OI x n m) (e:z.lent=x.lent):OI z n m:=⟨by rw[e];exact h.nd,by rw[e];exact h.rg,by rw[e];exact h.mp,by rw[e];exact h.ln⟩
theorem Ql_ {x:ChanR} {n:Nat} {m:List (Int×Int)} {s:List DeedR} (h:OI x n m) (hs:(s.map DeedR.id).Nodup) (hm:∀ d∈s,dL d∈x.lent/\d.kind=8):OI (Ao_ x s) n (m++s.map fun d=>(d.id,1)):=by
  obtain⟨g1,g2⟩:=Kq_ s x h.nd hs hm
  refine⟨?_,?_,?_,?_⟩
  · show ((E_ s x).lent.map LentR.id).Nodup
    rw[g1];exact (List.Sublist.map _ List.filter_sublist).nodup h.nd
  · intro y hy
    have hy:y∈(E_ s x).lent:=hy
    rw[g1] at hy
    exact h.rg y (List.mem_filter.1 hy).1
  · intro p hp
    rcases List.mem_append.1 hp with q|q
    · obtain⟨a,b,c⟩:=h.mp p q
      refine⟨a,b,fun y hy=>?_⟩
      have hy:y∈(E_ s x).lent:=hy
      rw[g1] at hy
      exact c y (List.mem_filter.1 hy).1
    · obtain⟨d,hd,rfl⟩:=List.mem_map.1 q
      obtain⟨a,b⟩:=h.rg (dL d) (hm d hd).1
      refine⟨a,b,fun y hy e=>?_⟩
      have hy:y∈(E_ s x).lent:=hy
      rw[g1] at hy
      have h2:=(List.mem_filter.1 hy).2
      have :(s.any fun d=>decide (y.id=d.id))=true:=List.any_eq_true.2 ⟨d,hd,by simpa using e⟩
      rw[this] at h2
      cases h2
  · have :=h.ln
    show (E_ s x).lent.length+_=n
    simp only[List.length_append,List.length_map]
    omega
theorem oi_lend {x:ChanR} {n:Nat} {m:List (Int×Int)} {q:Bs} (h:OI x n m):OI (Z_ x ⟨(n:Int)+1,q⟩) (n+1) m:=by
  have e:(Z_ x ⟨(n:Int)+1,q⟩).lent=x.lent++[⟨(n:Int)+1,q⟩]:=by simp[Z_]
  refine⟨?_,?_,?_,?_⟩
  · rw[e,List.map_append,List.nodup_append]
    refine⟨h.nd,by simp,?_⟩
    intro a ha b hb
    obtain⟨y,hy,rfl⟩:=List.mem_map.1 ha
    have hb:b=(n:Int)+1:=by simpa using hb
    have :=(h.rg y hy).2
    omega
  · rw[e];intro y hy
    rcases List.mem_append.1 hy with z|z
    · have :=h.rg y z;omega
    · rw[List.mem_singleton.1 z];show 1<=(n:Int)+1/\(n:Int)+1<=((n+1:Nat):Int);omega
  · rw[e];intro p hp
    obtain⟨a,b,c⟩:=h.mp p hp
    refine⟨a,by omega,fun y hy=>?_⟩
    rcases List.mem_append.1 hy with z|z
    · exact c y z
    · rw[List.mem_singleton.1 z];show (n:Int)+1≠_;omega
  · have :=h.ln
    rw[e];simp only[List.length_append,List.length_cons,List.length_nil];omega
theorem Uc_ {x:ChanR} {n:Nat} {m:List (Int×Int)} {s:List DeedR} (h:OI x n m) (hm:∀ d∈s,dL d∈x.lent/\d.kind=8):∀ d∈s,∀ p∈m,p.1≠d.id:=fun d hd p hp e=>(h.mp p hp).2.2 (dL d) (hm d hd).1 e.symm
theorem settle1 {x:ChanR} {n:Nat} {m:List (Int×Int)} (h:OI x n m) (lent next :Int) (y:ActR) :
    ∃ x' m',OI x' n m'/\(lt (D_ x (y.n) (y.how) (y.upto)) fun r2=>
 (bif ((decide (r2.2=0))&&(((decide ((r2.1.length:Int)=0))||(!decide (((gt r2.1 ((((r2.1.length:Int)-1)).toNat)).id)=(y.n))))||((!(y.upto))&&(!decide ((r2.1.length:Int)=1))))) then
 Lo.ret false
 else K_ lent next x r2 y r2.1 m))=Lo.fin (lent,next,x',m'):=by
  have key:∀ r2:List DeedR×Int,((r2.1.map DeedR.id).Nodup/\(∀ d∈r2.1,dL d∈x.lent/\d.kind=8))->(r2.2≠0->r2.1=[])->(r2.2=0->∃ f d,r2.1=f++[d]/\d.id=y.n/\(y.upto=false->f=[])) ->
      ∃ x' m',OI x' n m'/\(bif ((decide (r2.2=0))&&(((decide ((r2.1.length:Int)=0))||(!decide (((gt r2.1 ((((r2.1.length:Int)-1)).toNat)).id)=(y.n))))||((!(y.upto))&&(!decide ((r2.1.length:Int)=1))))) then
 Lo.ret false
 else K_ lent next x r2 y r2.1 m)=Lo.fin (lent,next,x',m'):=by
    intro r2 ⟨hn,hm⟩ he hz
    have hc:((decide (r2.2=0))&&(((decide ((r2.1.length:Int)=0))||(!decide (((gt r2.1 ((((r2.1.length:Int)-1)).toNat)).id)=(y.n))))||((!(y.upto))&&(!decide ((r2.1.length:Int)=1)))))=false:=by
      by_cases z:r2.2=0
      · obtain⟨f,d,e1,e2,e3⟩:=hz z
        have hl:r2.1.length=f.length+1:=by rw[e1];simp
        have hg:gt r2.1 ((((r2.1.length:Int)-1)).toNat)=d:=by
          have :(((r2.1.length:Int)-1)).toNat=f.length:=by omega
          rw[this,e1];simp[gt]
        rw[hg]
        have hl0:¬(r2.1.length:Int)=0:=by omega
        cases hu:y.upto with
        |true=>
          have hne:r2.1≠[]:=by rw[e1];simp
          simp[e2,hl0,z,hne]
        |false=>
          have :f=[]:=e3 hu
          have hl1:(r2.1.length:Int)=1:=by rw[hl,this];rfl
          have hne:r2.1≠[]:=by rw[e1];simp
          simp[e2,hl1,z,hne]
      · simp[z]
    rw[hc,cond_false,once1 r2.1 m (Uc_ h hm) hn]
    refine⟨_,_,Ql_ h hn hm,?_⟩
    conv=>lhs;rw[K_]
    simp only[lt]
    have hno:((!decide ((D_ (Ao_ x r2.1) (y.n) 0 false).2=10))&&(decide (0<(r2.1.length:Int))))=false:=by
      by_cases z:r2.2=0
      · obtain⟨f,d,e1,e2,e3⟩:=hz z
        have hd:d∈r2.1:=by rw[e1];simp
        have h10:(D_ (Ao_ x r2.1) (y.n) 0 false).2=10:=by
          simp only[D_]
          rw[show decide ((2:Int)<0)=false by decide,cond_false]
          refine Qy_ _ _ _ _ fun w hw e=>?_
          have hw:w∈(E_ r2.1 x).lent:=hw
          rw[(Kq_ r2.1 x h.nd hn hm).1] at hw
          have h2:=(List.mem_filter.1 hw).2
          have :(r2.1.any fun d=>decide (w.id=d.id))=true:=List.any_eq_true.2 ⟨d,hd,by simp[e,e2]⟩
          rw[this] at h2
          cases h2
        simp[h10]
      · simp[he z]
    rw[hno,cond_false]
  simp only[lt]
  refine key _ ?_ ?_ ?_
  · simp only[D_,Bool.cond_eq_ite]
    split
    · exact⟨by simp,by simp⟩
    · have h1:=Jo_ (c:=x) y.n y.how y.upto x.lent []
      have h2:=Jn_ (c:=x) y.n y.how y.upto x.lent []
      refine⟨h1.nodup (by simpa using h.nd),fun d hd=>?_⟩
      rcases h2 d hd with q|q
      · cases q
      · exact q
  · simp only[D_,Bool.cond_eq_ite]
    split
    · exact fun _=>rfl
    · exact J8_ _ _ _ _ _
  · simp only[D_,Bool.cond_eq_ite]
    split
    · intro q;cases q
    · intro q
      obtain⟨f,d,a,b,c⟩:=Hy_ (c:=x) y.n y.how y.upto x.lent [] q
      exact⟨f,d,a,b,c⟩
theorem O6_ {z:Int} (h0:0<=z) (h1:z<=1000):IntKind.wrap .u64 z=z:=by
  have :IntKind.wrap .u64 z=z%18446744073709551616:=rfl
  rw[this];omega
theorem once0 (r:ChanR):∀ (l:List ActR) (k:Nat) (x:ChanR) (mp:List (Int×Int)),k+l.length<=60->OI x k mp->Al_ r l k ((k:Int)+1) x mp=true
  |[],k,x,mp,_,_=>rfl
  |a::l,k,x,mp,hk,h=>by
    simp only[List.length_cons] at hk
    have hI:∃ (k':Nat) (x':ChanR) (mp':List (Int×Int)),k'<=k+1/\OI x' k' mp'/\(bif decide (((a.dow)%11)=3) then
 lt (Z_ x (⟨((k:Int)+1),a.queue⟩:LentR)) fun r1=>
 .fin (((k:Int)+1),(IntKind.wrap .u64 (((k:Int)+1)+1)),r1,mp)
 else (bif decide (((a.dow)%11)=4) then
 lt (D_ x (a.n) (a.how) (a.upto)) fun r2=>
 (bif ((decide (r2.2=0))&&(((decide ((r2.1.length:Int)=0))||(!decide (((gt r2.1 ((((r2.1.length:Int)-1)).toNat)).id)=(a.n))))||((!(a.upto))&&(!decide ((r2.1.length:Int)=1))))) then
 .ret false
 else K_ (k:Int) ((k:Int)+1) x r2 a r2.1 mp)
 else (bif decide (((a.dow)%11)=9) then
 .fin ((k:Int),((k:Int)+1),x,mp)
 else lt (Cg_ x (⟨0,[],[],false,false,0,(⟨[]⟩:Ai_)⟩:ChanR) a) fun r5=>
 .fin ((k:Int),((k:Int)+1),r5.1,mp))))=(Lo.fin ((k':Int),(k':Int)+1,x',mp'):Lo (Int×Int×ChanR×(List (Int×Int))) Bool):=by
      by_cases h3:a.dow%11=3
      · refine⟨k+1,_,mp,Nat.le_refl _,oi_lend (q:=a.queue) h,?_⟩
        rw[show decide (a.dow%11=3)=true by simp[h3],cond_true]
        simp only[lt]
        rw[O6_ (by omega) (by omega)]
        rw[show ((k+1:Nat):Int)=(k:Int)+1 by omega]
      · rw[show decide (a.dow%11=3)=false by simp[h3],cond_false]
        by_cases h4:a.dow%11=4
        · rw[show decide (a.dow%11=4)=true by simp[h4],cond_true]
          obtain⟨x',m',g1,g2⟩:=settle1 h (k:Int) ((k:Int)+1) a
          exact⟨k,x',m',Nat.le_succ _,g1,g2⟩
        · rw[show decide (a.dow%11=4)=false by simp[h4],cond_false]
          by_cases h9:a.dow%11=9
          · rw[show decide (a.dow%11=9)=true by simp[h9],cond_true]
            exact⟨k,x,mp,Nat.le_succ _,h,rfl⟩
          · rw[show decide (a.dow%11=9)=false by simp[h9],cond_false]
            exact⟨k,_,mp,Nat.le_succ _,oi_same h (Ro_ h3 h4),rfl⟩
    obtain⟨k',x',mp',h1,h2,e⟩:=hI
    rw[Al_,e]
    have hd:decide (((x'.lent.length:Int)+(mp'.length:Int))=(k':Int))=true:=by
      have :=h2.ln
      simp;omega
    show (lp4 (bif !decide (((x'.lent.length:Int)+(mp'.length:Int))=(k':Int)) then (Lo.ret false:Lo (Int×Int×ChanR×List (Int×Int)) Bool) else .fin ((k':Int),(k':Int)+1,x',mp')) (fun lent1 next1 x1 mp1=>Al_ r l lent1 next1 x1 mp1) (fun r=>r))=true
    rw[hd]
    exact once0 r l k' x' mp' (by omega) h2
theorem law27_once (l:List ActR):Cn_ l=true:=by
  unfold Cn_
  cases hl:Dq_ l with
  |false=>rfl
  |true=>
    simp only[Bool.not_true,cond_false,lt]
    have h60:=(R5_ hl).1
    have e:=once0 Bn_ l 0 Bn_ [] (by omega) ⟨by simp[Bn_],by simp[Bn_],by simp,by simp[Bn_]⟩
    rw[show (((0:Nat):Int)+1)=1 from rfl,show ((0:Nat):Int)=0 from rfl] at e
    exact e
end Go.SW.V
