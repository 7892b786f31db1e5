/-
  A part of the proof of StoreRenews: The walks of this seat, printed by program: policy.place, policy.Policy.grant, policy.Policy.places, policy.Policy.slots, policy.Policy.grants, policy.Policy.Check, policy.number, policy.small, policy.Policy.named, lattice.Parse.
-/
import Derived.Test.YtkngbefdgkfjmaaGreatDoorProg
import Derived.Test.YtkngbefdgkfjmaaGreatDoorStoreRenewsP3
import Derived.KernelRfl
import Derived.Test.YtkngbefdgkfjmaaGreatDoorStoreRenewsP5
import Derived.Test.YtkngbefdgkfjmaaGreatDoorStoreRenewsP2
set_option linter.unusedVariables false
set_option linter.unusedSimpArgs false
set_option maxRecDepth 100000
set_option maxHeartbeats 4000000
namespace Go.SW.V
open Go.SW Go.Proofs
abbrev R24_:(Int×Int)->PV:=fun r=> .tup [.int .u64 r.1, .int .i64 r.2]
abbrev R25_:(Int×Bs×Int)->PV:=fun r=> .tup [.int .i64 r.1, .str r.2.1, .int .i64 r.2.2]
def tbv121:Tb:=[(3,ty3),(5,ty5),(9,ty9),(22,ty22),(23,ty23),(24,ty24),(26,ty26),(36,ty36),(78,ty78),(87,ty87),(90,ty90),(92,ty92),(94,ty94),(303,ty303)]
theorem L_:tbB Tryz.prog tbv121=true:=by kernel_rfl
theorem Nj_ (x:D_) (ahead:List D_):Fn Tryz.prog gb 338 [.agg (D_.pc x), .sl D_.pc ahead] (.int .i64 (Gj_ x ahead)):=by
  refine fC Tryz.func338 L_ Tryz.ntmps338 fun w N H hG=>?_;have ahead_l:ahead.length<=140737488355328:=w.2.1.1;have e0:=Gj_.eq_1 x ahead;generalize Gj_ x ahead=z at e0 ⊢;refine gm L_ 8 [0] fun B2=>?_;refine freeze (i:=0) (t:=2) rfl rfl rfl rfl ?_;refine gx L_ 9 ?_;refine call (B8_ _) rfl rfl fun w3=>?_;refine gx L_ 11 ?_;refine cN e0 (fun p6 e7=>?_) (fun p9 e10=>?_)
  · refine gx L_ 9 ?_;subst e7;exact qr1
  refine gx L_ 1 ?_;obtain⟨o,e_o,q_o⟩:=Hb_ e10;refine H1_ (ι:=Bool) [1,4,5] [] (fun v=>[(15, .bool v)]) (fun v=>[]) (fun v=>o=v) ?_ ?_
  · refine gx L_ 4 ?_;refine call (Lv_ _) rfl rfl fun w11=>?_;refine gx L_ 4 ?_;refine cE e_o (fun h12 e14=>?_) (fun h12 e16=>?_)
    · have h13:=Cz_ h12;refine gx L_ 1 ?_;refine nX (!(Fp_ x.label)) ?_ ⟨rfl,trivial⟩ trivial;exact e14
    have h15:=Da_ h12;refine gx L_ 4 ?_;refine call (Ef_ _ _ _) rfl rfl fun w17=>?_;refine gx L_ 4 ?_;refine cE e16 (fun h18 e20=>?_) (fun h18 e22=>?_)
    · have h19:=Cz_ h18;refine gx L_ 1 ?_;refine nX (!(Bk_ x.bytes 0 65536)) ?_ ⟨rfl,trivial⟩ trivial;exact e20
    have h21:=Da_ h18;refine gx L_ 6 ?_;refine nX (decide (x.base=0)) ?_ ⟨rfl,trivial⟩ trivial;exact e22
  rintro v hp23;have e24:=J0_ q_o hp23;refine gx L_ 1 ?_;refine cE e24 (fun h25 e26=>?_) (fun h25 e27=>?_)
  · refine gx L_ 8 ?_;subst e26;exact qr1
  refine gx L_ 4 ?_;refine call (Zh_ _ _ _ _ (fun z_28:D_=>(Gw_ z_28 x)) (fun z_28=>L0_ z_28 x)) rfl rfl fun w29=>?_;refine gx L_ 3 ?_;refine cD e27 (fun p31 e32=>?_) (fun p33 e34=>?_)
  · refine gx L_ 8 ?_;subst e32;exact qr1
  refine gx L_ 9 ?_;subst e34;exact qr1
theorem Iq_ (p:E_) (x:Ah_) (ahead:List Ah_):Fn Tryz.prog gb 339 [.agg (E_.pc p), .agg (Ah_.pc x), .sl Ah_.pc ahead] (.int .i64 (Dm_ p x ahead)):=by
  refine fC Tryz.func339 L_ Tryz.ntmps339 fun w N H hG=>?_;have p_places_l:p.places.length<=140737488355328:=w.1.2.2.1.1;have p_slots_l:p.slots.length<=140737488355328:=w.1.2.2.2.1.1;have p_grants_l:p.grants.length<=140737488355328:=w.1.2.2.2.2.1.1;have ahead_l:ahead.length<=140737488355328:=w.2.2.1.1;have e0:=Dm_.eq_1 p x ahead;generalize Dm_ p x ahead=z at e0 ⊢;refine gm L_ 9 [0,1] fun B2=>?_;refine freeze (i:=1) (t:=4) rfl rfl rfl rfl ?_;refine gx L_ 12 ?_;refine call (Cm_ _ _) rfl rfl fun w4=>?_;refine gx L_ 4 ?_;refine cE e0 (fun h5 e7=>?_) (fun h5 e10=>?_)
  · have h6:=Cz_ h5;refine gx L_ 2 ?_;refine cndT rfl h5 ?_;refine gx L_ 8 ?_;subst e7;exact qr1
  have h8:=Da_ h5;have hb8:=Uu_ h8
  (try obtain⟨hb8a,hb8b⟩:=hb8)
  refine gx L_ 4 ?_;refine call (Cm_ _ _) rfl rfl fun w11=>?_;refine gx L_ 4 ?_;refine cE e10 (fun h12 e14=>?_) (fun h12 e17=>?_)
  · have h13:=Cz_ h12;refine gx L_ 8 ?_;subst e14;exact qr1
  have h15:=Da_ h12;have hb15:=Uu_ h15
  (try obtain⟨hb15a,hb15b⟩:=hb15)
  refine gx L_ 1 ?_;refine aN [1,2,3,4,5,6] 16 mixd ?_;refine gX L_ [0,1,2,3] 12 ?_;have hc18:=getG (xs:=p.places) (k:=(x.frm).toNat) (by omega);refine vq 4 (qidx L_ (x.frm).toNat rfl rfl (by omega) hc18 rfl rfl rfl rfl) rfl (by kernel_rfl) rfl fun w19=>?_;refine gX L_ [5,6,7,8,9,10] 5 ?_;have hc20:=getG (xs:=p.places) (k:=(x.to').toNat) (by omega);refine vq 11 (qidx L_ (x.to').toNat rfl rfl (by omega) hc20 rfl rfl rfl rfl) rfl (by kernel_rfl) rfl fun w21=>?_;refine gX L_ [12,13] 2 ?_;refine vC 14 rfl (Ed_ _ _) rfl fun w22=>?_;refine gX L_ [15] 0 ?_;refine vD ?_;refine gx L_ 1 ?_;refine cE e17 (fun h23 e24=>?_) (fun h23 e25=>?_)
  · refine gx L_ 8 ?_;subst e24;exact qr1
  refine gx L_ 4 ?_;refine call (Ef_ _ _ _) rfl rfl fun w26=>?_;refine gx L_ 4 ?_;refine cE e25 (fun h27 e29=>?_) (fun h27 e31=>?_)
  · have h28:=Cz_ h27;refine gx L_ 8 ?_;subst e29;exact qr1
  have h30:=Da_ h27;refine gx L_ 4 ?_;refine call (Zg_ _ _ _ _ (fun z_32:Ah_=>(Gv_ z_32 x)) (fun z_32=>Lz_ z_32 x)) rfl rfl fun w33=>?_;refine gx L_ 3 ?_;refine cD e31 (fun p35 e36=>?_) (fun p37 e38=>?_)
  · refine gx L_ 8 ?_;subst e36;exact qr1
  refine gx L_ 9 ?_;subst e38;exact qr1
theorem Ij_ (p:E_):Fn Tryz.prog gb 302 [.agg (E_.pc p)] (.int .i64 (Ce_ p)):=by
  refine fC Tryz.func302 L_ Tryz.ntmps302 fun w N H hG=>?_;have p_places_l:p.places.length<=140737488355328:=w.1.2.2.1.1;have p_slots_l:p.slots.length<=140737488355328:=w.1.2.2.2.1.1;have p_grants_l:p.grants.length<=140737488355328:=w.1.2.2.2.2.1.1;have e0:=Ce_.eq_1 p;refine gm L_ 11 [0] fun B2=>?_;refine cV e0 R0_ (Hd_ _ _ _) rfl fun r hr3 e5 w4=>?_;refine gx L_ 10 ?_;refine loop (ι:=Nat×Int×Nat) [1,2] [0] (fun ⟨f,e_1,i⟩=>[(3, .int .i64 e_1),(4, .int .i64 (i:Int))]) (fun ⟨f,e_1,i⟩=>[]) (fun ⟨f,e_1,i⟩=>p.places.length+1-i<f/\Ce_ p=Dd_ p f e_1 i/\i<=p.places.length) (fun ⟨f,e_1,i⟩=>f) ⟨(p.places.length+1-0+1),r,0⟩ ⟨rfl,rfl,trivial⟩ trivial ?_ ?_
  · exact⟨Nat.lt_succ_self _,e5,Nat.zero_le _⟩
  rintro⟨f,e_1,i⟩ ⟨hp6_1,hp6_2,hp6_3⟩;obtain⟨f1,rfl⟩:∃ q,f=q+1:=⟨f-1,by omega⟩;have e_f1:=hp6_2.trans (Dd_.eq_2 _ _ _ _);refine gy L_ 14 ?_;refine cE e_f1 (fun h7 e12=>?_) (fun h7 e17=>?_)
  · have h8:=bl h7;have p9:=dt h8;have h10:=br h7;have p11:=dt h10;refine gx L_ 4 ?_;refine aN [1,2,3,4,5,6] 11 mixd ?_;refine gX L_ [0,1,2] 8 ?_;have hc13:=getG (xs:=p.places) (k:=i) (by omega);refine vq 3 (qidx L_ i rfl rfl rfl hc13 rfl rfl rfl rfl) rfl (by kernel_rfl) rfl fun w14=>?_;refine gX L_ [4,5,6,7] 3 ?_;refine vq 8 (lshi L_ i rfl rfl rfl rfl rfl (fun _=>rfl) rfl (by omega)) rfl (by kernel_rfl) rfl fun w15=>?_;refine vC 9 rfl (Nj_ _ _) rfl fun w16=>?_;refine gX L_ [10] 0 ?_;refine vD ?_;refine gy L_ 7 ?_;refine next ⟨f1,(Gj_ (gt p.places i) (p.places.take i)),(i+1)⟩ rfl rfl ⟨rfl,rfl,trivial⟩ trivial ?_ ?_
    · (try simp only[]);omega
    exact⟨by (try simp only[]);omega,e12,by omega⟩
  refine gx L_ 12 ?_;exact rt1 rfl rfl (V_ (fun r:Int=> .int .i64 r) e17 (ple rfl))
theorem Ir_ (p:E_):Fn Tryz.prog gb 303 [.agg (E_.pc p)] (.int .i64 (Cn_ p)):=by
  refine fC Tryz.func303 L_ Tryz.ntmps303 fun w N H hG=>?_;have p_places_l:p.places.length<=140737488355328:=w.1.2.2.1.1;have p_slots_l:p.slots.length<=140737488355328:=w.1.2.2.2.1.1;have p_grants_l:p.grants.length<=140737488355328:=w.1.2.2.2.2.1.1;have e0:=Cn_.eq_1 p;refine gm L_ 11 [0] fun B2=>?_;refine cV e0 R0_ (Hd_ _ _ _) rfl fun r hr3 e5 w4=>?_;refine gx L_ 10 ?_;refine loop (ι:=Nat×Int×Nat) [1,2] [0] (fun ⟨f,e_1,i⟩=>[(3, .int .i64 e_1),(4, .int .i64 (i:Int))]) (fun ⟨f,e_1,i⟩=>[]) (fun ⟨f,e_1,i⟩=>p.slots.length+1-i<f/\Cn_ p=Cl_ p f e_1 i/\i<=p.slots.length) (fun ⟨f,e_1,i⟩=>f) ⟨(p.slots.length+1-0+1),r,0⟩ ⟨rfl,rfl,trivial⟩ trivial ?_ ?_
  · exact⟨Nat.lt_succ_self _,e5,Nat.zero_le _⟩
  rintro⟨f,e_1,i⟩ ⟨hp6_1,hp6_2,hp6_3⟩;obtain⟨f1,rfl⟩:∃ q,f=q+1:=⟨f-1,by omega⟩;have e_f1:=hp6_2.trans (Cl_.eq_2 _ _ _ _);refine gy L_ 14 ?_;refine cE e_f1 (fun h7 e12=>?_) (fun h7 e21=>?_)
  · have h8:=bl h7;have p9:=dt h8;have h10:=br h7;have p11:=dt h10;refine gx L_ 5 ?_;refine aN [1,2,3,4,5,6] 8 mixd ?_;refine gX L_ [0,1,2,3] 4 ?_;have hc13:=getG (xs:=p.slots) (k:=i) (by omega);refine vq 4 (qidx L_ i rfl rfl rfl hc13 rfl rfl rfl rfl) rfl (by kernel_rfl) rfl fun w14=>?_;refine gX L_ [5] 2 ?_;refine vC 6 rfl (Cm_ _ _) rfl fun w15=>?_;refine gX L_ [7] 0 ?_;refine vD ?_;refine gx L_ 1 ?_;refine cE e12 (fun h16 e18=>?_) (fun h16 e20=>?_)
    · have h17:=Cz_ h16;refine gy L_ 10 ?_;refine next ⟨f1,10,(i+1)⟩ rfl rfl ⟨rfl,rfl,trivial⟩ trivial ?_ ?_
      · (try simp only[]);omega
      exact⟨by (try simp only[]);omega,e18,by omega⟩
    have h19:=Da_ h16;refine gy L_ 8 ?_;refine next ⟨f1,e_1,(i+1)⟩ rfl rfl ⟨rfl,rfl,trivial⟩ trivial ?_ ?_
    · (try simp only[]);omega
    exact⟨by (try simp only[]);omega,e20,by omega⟩
  refine gx L_ 12 ?_;exact rt1 rfl rfl (V_ (fun r:Int=> .int .i64 r) e21 (ple rfl))
theorem Ii_ (p:E_):Fn Tryz.prog gb 304 [.agg (E_.pc p)] (.int .i64 (Cd_ p)):=by
  refine fC Tryz.func304 L_ Tryz.ntmps304 fun w N H hG=>?_;have p_places_l:p.places.length<=140737488355328:=w.1.2.2.1.1;have p_slots_l:p.slots.length<=140737488355328:=w.1.2.2.2.1.1;have p_grants_l:p.grants.length<=140737488355328:=w.1.2.2.2.2.1.1;have e0:=Cd_.eq_1 p;refine gm L_ 11 [0] fun B2=>?_;refine cV e0 R0_ (Hd_ _ _ _) rfl fun r hr3 e5 w4=>?_;refine gx L_ 10 ?_;refine loop (ι:=Nat×Int×Nat) [1,2] [0] (fun ⟨f,e_1,i⟩=>[(3, .int .i64 e_1),(4, .int .i64 (i:Int))]) (fun ⟨f,e_1,i⟩=>[]) (fun ⟨f,e_1,i⟩=>p.grants.length+1-i<f/\Cd_ p=Dc_ p f e_1 i/\i<=p.grants.length) (fun ⟨f,e_1,i⟩=>f) ⟨(p.grants.length+1-0+1),r,0⟩ ⟨rfl,rfl,trivial⟩ trivial ?_ ?_
  · exact⟨Nat.lt_succ_self _,e5,Nat.zero_le _⟩
  rintro⟨f,e_1,i⟩ ⟨hp6_1,hp6_2,hp6_3⟩;obtain⟨f1,rfl⟩:∃ q,f=q+1:=⟨f-1,by omega⟩;have e_f1:=hp6_2.trans (Dc_.eq_2 _ _ _ _);refine gy L_ 14 ?_;refine cE e_f1 (fun h7 e12=>?_) (fun h7 e17=>?_)
  · have h8:=bl h7;have p9:=dt h8;have h10:=br h7;have p11:=dt h10;refine gx L_ 4 ?_;refine aN [1,2,3,4,5,6] 12 mixd ?_;refine gX L_ [0,1,2,3] 8 ?_;have hc13:=getG (xs:=p.grants) (k:=i) (by omega);refine vq 4 (qidx L_ i rfl rfl rfl hc13 rfl rfl rfl rfl) rfl (by kernel_rfl) rfl fun w14=>?_;refine gX L_ [5,6,7,8] 3 ?_;refine vq 9 (lshi L_ i rfl rfl rfl rfl rfl (fun _=>rfl) rfl (by omega)) rfl (by kernel_rfl) rfl fun w15=>?_;refine vC 10 rfl (Iq_ _ _ _) rfl fun w16=>?_;refine gX L_ [11] 0 ?_;refine vD ?_;refine gy L_ 7 ?_;refine next ⟨f1,(Dm_ p (gt p.grants i) (p.grants.take i)),(i+1)⟩ rfl rfl ⟨rfl,rfl,trivial⟩ trivial ?_ ?_
    · (try simp only[]);omega
    exact⟨by (try simp only[]);omega,e12,by omega⟩
  refine gx L_ 12 ?_;exact rt1 rfl rfl (V_ (fun r:Int=> .int .i64 r) e17 (ple rfl))
theorem Ip_ (p:E_):Fn Tryz.prog gb 249 [.agg (E_.pc p)] (.int .i64 (Ea_ p)):=by
  refine fC Tryz.func249 L_ Tryz.ntmps249 fun w N H hG=>?_;have p_places_l:p.places.length<=140737488355328:=w.1.2.2.1.1;have p_slots_l:p.slots.length<=140737488355328:=w.1.2.2.2.1.1;have p_grants_l:p.grants.length<=140737488355328:=w.1.2.2.2.2.1.1;have e0:=Ea_.eq_1 p;generalize Ea_ p=z at e0 ⊢;refine gm L_ 11 [0] fun B2=>?_;refine call (Ef_ _ _ _) rfl rfl fun w3=>?_;refine gy L_ 4 ?_;refine callg rfl (fun hc=>(Ef_ _ _ _)) rfl ⟨(fun hc=>hc),trivial⟩ rfl rfl fun _=>?_;refine gy L_ 4 ?_;refine cE e0 (fun h4 e5=>?_) (fun h4 e10=>?_)
  · refine gx L_ 7 ?_;subst e5;exact qr1
  have h6:=orl h4;have h7:=Da_ h6;have h8:=orr h4;have h9:=Da_ h8;refine gx L_ 4 ?_;refine aN [1,2,3,4,5,6] 9 mixd ?_;refine gX L_ [0] 8 ?_;refine vC 1 rfl (Ij_ _) rfl fun w11=>?_;refine gX L_ [2] 6 ?_;refine vC 3 rfl (Ir_ _) rfl fun w12=>?_;refine gX L_ [4] 4 ?_;refine vC 5 rfl (Ii_ _) rfl fun w13=>?_;refine vE 6 rfl (bsl 1 i64c [(Ce_ p),(Cn_ p),(Cd_ p)] L_ rfl rfl rfl rfl rfl (fun _=>rfl) rfl (by decide) (by decide) rfl fun u14=>?_);refine vE 7 rfl (calll 1 rfl (V3_ _) rfl rfl rfl fun w15=>?_);refine gX L_ [8] 0 ?_;refine vD ?_;refine gx L_ 7 ?_;refine cN e10 (fun p18 e19=>?_) (fun p21 e22=>?_)
  · refine gx L_ 8 ?_;subst e19;exact qr1
  refine gx L_ 12 ?_;refine loop (ι:=Nat) [1,28] [0,1] (fun k=>[(29, .int .i64 (k:Int))]) (fun k=>[]) (fun k=>k<=p.places.length/\z=Bg_ p (p.places.drop k) k) (fun k=>p.places.length-k) 0 ⟨rfl,trivial⟩ trivial ?_ ?_
  · exact⟨Nat.zero_le _,e22⟩
  rintro k ⟨hp23_1,hp23_2⟩;refine gx L_ 6 ?_;refine cn rfl (fun p25=>?_) fun p33=>?_
  · have e26:=Dt_ (f:=fun zz=>Bg_ p zz k) hp23_2 (G4_ (by omega)) (Bg_.eq_2 _ _ _ _);refine gx L_ 15 ?_;refine call (Mh_ _ _) rfl rfl fun w27=>?_;refine gx L_ 3 ?_;refine cE e26 (fun h28 e30=>?_) (fun h28 e32=>?_)
    · have h29:=Cz_ h28;refine gx L_ 11 ?_;subst e30;exact qr1
    have h31:=Da_ h28;refine gy L_ 7 ?_;refine next (k+1) rfl rfl ⟨rfl,trivial⟩ trivial ?_ ?_
    · (try simp only[]);omega
    exact⟨by (try simp only[]);omega,e32⟩
  have e34:=Dt_ (f:=fun zz=>Bg_ p zz k) hp23_2 (G5_ (by omega)) (Bg_.eq_1 _ _);refine gx L_ 11 ?_;subst e34;exact qr1
theorem In_ (s:Bs) (most:Int) (hl:s.length<=19:=by omega):Fn Tryz.prog gb 336 [.str s, .int .u64 most] (.tup [.int .u64 ((E6_ s most).1), .int .i64 ((E6_ s most).2)]):=by
  refine fC Tryz.func336 L_ Tryz.ntmps336 fun w N H hG=>?_;have s_l:s.length<=9223372036854775807:=w.1;have most_r:0<=most/\most<=18446744073709551615:=w.2.1;have e0:=E6_.eq_1 s most;generalize E6_ s most=z at e0 ⊢;have :=u8r (s.getD 0 0);refine gy L_ 17 ?_;refine q1g [16] rfl (fun hc=>sidx L_ 0 rfl rfl rfl rfl rfl (by first|omega|(simp only[gOf,bl2] at *;omega))) ⟨(fun hc=>hc),trivial⟩ rfl rfl rfl fun _=>?_;refine gy L_ 5 ?_;refine cE e0 (fun h1 e2=>?_) (fun h1 e6=>?_)
  · refine gx L_ 8 ?_;subst e2;exact qr2
  have h3:=orl h1;have p4:=df h3;have h5:=orr h1;refine gx L_ 11 ?_;refine loop (ι:=Nat) [0,1,22] [] (fun k=>[(23, .int .i64 (k:Int))]) (fun k=>[]) (fun k=>k<=s.length/\z=C2_ s most (s.drop k)/\Eq_ (s.take k)=true) (fun k=>s.length-k) 0 ⟨rfl,trivial⟩ trivial ?_ ?_
  · exact⟨Nat.zero_le _,e6,rfl⟩
  rintro k ⟨hp7_1,hp7_2,hp7_3⟩;refine gx L_ 6 ?_;refine cnd rfl (fun h8=>?_) (fun h8=>?_)
  · have p9:=dt h8;have e10:=Dt_ (f:=fun zz=>C2_ s most zz) hp7_2 (G4_ (by omega)) (C2_.eq_2 _ _ _ _);have :=u8r (s.getD k 0);refine gx L_ 14 ?_;refine q1 (sidx L_ k rfl rfl rfl rfl rfl (by omega)) rfl fun w11=>?_;have :=u8r (s.getD k 0);refine gx L_ 4 ?_;refine q1g [31,32] rfl (fun hc=>sidx L_ k rfl rfl rfl rfl rfl (by first|omega|(simp only[gOf,bl2] at *;omega))) ⟨(fun hc=>hc),(fun hc=>hc),trivial⟩ rfl rfl rfl fun _=>?_;refine gy L_ 4 ?_;refine cE e10 (fun h12 e13=>?_) (fun h12 e18=>?_)
    · refine gx L_ 12 ?_;subst e13;exact qr2
    have h14:=orl h12;have p15:=df h14;have h16:=orr h12;have p17:=df h16;refine gy L_ 7 ?_;refine next (k+1) rfl rfl ⟨rfl,trivial⟩ trivial ?_ ?_
    · (try simp only[]);omega
    exact⟨by (try simp only[]);omega,e18,Zl_ (by assumption) (by omega) (by assumption)⟩
  have p19:=df h8;have e20:=Dt_ (f:=fun zz=>C2_ s most zz) hp7_2 (G5_ (by omega)) (C2_.eq_1 _ _);refine gx L_ 8 ?_;refine call (strconv_PU _ _ _ (by rfl) (by rfl) (by omega) (by exact List.length_pos_iff.2 (by assumption)) (by exact dig_all (by assumption) (by omega))) rfl rfl fun w21=>?_;refine gx L_ 11 ?_;refine q1 (qnilN rfl Tryz.underlying422) rfl fun w22=>?_;refine gx L_ 1 ?_;refine ungd rfl rfl ?_;refine gx L_ 1 ?_;refine ungd rfl rfl ?_;refine gx L_ 1 ?_;refine ungd rfl rfl ?_;refine gx L_ 4 ?_;refine cD e20 (fun p24 e25=>?_) (fun p26 e27=>?_)
  · refine gx L_ 8 ?_;subst e25;exact qr2
  refine gx L_ 10 ?_;subst e27;exact qr2
theorem Cx_ (s:Bs) (hl:s.length<=19:=by omega):Fn Tryz.prog gb 297 [.str s] (.tup [.int .i64 ((Cw_ s).1), .int .i64 ((Cw_ s).2)]):=by
  refine fC Tryz.func297 L_ Tryz.ntmps297 fun w N H hG=>?_;have s_l:s.length<=9223372036854775807:=w.1;have e0:=Cw_.eq_1 s;refine gx L_ 9 ?_;refine cV e0 R24_ (In_ _ _) rfl fun r hr1 e3 w2=>?_;refine gx L_ 17 ?_;exact rt2 rfl rfl (V_ (fun r:Int×Int=> .tup [.int .i64 r.1, .int .i64 r.2]) e3 (ple rfl))
theorem Ck_ (p:E_) (s:Bs):Fn Tryz.prog gb 298 [.agg (E_.pc p), .str s] (.tup [.int .i64 ((W_ p s).1), .int .i64 ((W_ p s).2)]):=by
  refine fC Tryz.func298 L_ Tryz.ntmps298 fun w N H hG=>?_;have p_places_l:p.places.length<=140737488355328:=w.1.2.2.1.1;have p_slots_l:p.slots.length<=140737488355328:=w.1.2.2.2.1.1;have p_grants_l:p.grants.length<=140737488355328:=w.1.2.2.2.2.1.1;have s_l:s.length<=9223372036854775807:=w.2.1;have e0:=W_.eq_1 p s;generalize W_ p s=z at e0 ⊢;refine gm L_ 12 [0] fun B2=>?_;refine cV e0 R0_ (D0_ _ _) rfl fun r hr3 e5 w4=>?_;have hA5:=Tv_ p s
  (try rw[<- hr3] at hA5)
  refine gx L_ 9 ?_;refine cD e5 (fun p8 e9=>?_) (fun p10 e11=>?_)
  · refine gx L_ 9 ?_;subst e9;exact qr2
  refine gx L_ 9 ?_;subst e11;exact qr2
theorem Fg_ (s:Bs):Fn Tryz.prog gb 306 [.str s] (.tup [.agg (H_.pc ((Dx_ s).1)), .int .i64 ((Dx_ s).2)]):=by
  refine fC Tryz.func306 L_ Tryz.ntmps306 fun w N H hG=>?_;have s_l:s.length<=9223372036854775807:=w.1;have e0:=Dx_.eq_1 s;generalize Dx_ s=z at e0 ⊢;refine gm L_ 9 [0] fun B2=>?_;refine cV e0 R25_ (H3_ _ _) rfl fun r hr3 e5 w4=>?_;have hA5:=lnum_r s 15 (by omega)
  (try rw[<- hr3] at hA5)
  refine gx L_ 16 ?_;refine cN e5 (fun p9 e10=>?_) (fun p13 e14=>?_)
  · refine gm L_ 10 [] fun _=>?_;subst e10;exact qr2
  refine gm L_ 18 [1] fun B16=>?_;refine loop (ι:=Nat×Bs×Int×H_) [2,6] [0] (fun ⟨f,s1,last,x⟩=>[(0, .str s1),(7, .int .i64 last)]) (fun ⟨f,s1,last,x⟩=>[(1, .box (B16 0) 92 (H_.pc x))]) (fun ⟨f,s1,last,x⟩=>s1.length<f/\z=Ff_ f s1 last x/\True) (fun ⟨f,s1,last,x⟩=>f) ⟨(r.2.1.length+1),r.2.1,(-1),(⟨(IntKind.wrap .u8 r.1),0⟩:H_)⟩ ⟨rfl,rfl,trivial⟩ ⟨rfl,trivial⟩ ?_ ?_
  · exact⟨Nat.lt_succ_self _,e14,trivial⟩
  rintro⟨f,s1,last,x⟩ ⟨hp17_1,hp17_2,hp17_3⟩;obtain⟨f1,rfl⟩:∃ q,f=q+1:=⟨f-1,by omega⟩;have e_f1:=hp17_2.trans (Ff_.eq_2 _ _ _ _);refine gx L_ 8 ?_;refine cD e_f1 (fun p19 e20=>?_) (fun p49 e50=>?_)
  · have :=u8r (s1.getD 0 0);refine gx L_ 7 ?_;refine q1 (sidx L_ 0 rfl rfl rfl rfl rfl (by omega)) rfl fun w21=>?_;refine gx L_ 3 ?_;refine cN e20 (fun p24 e25=>?_) (fun p28 e29=>?_)
    · refine gm L_ 13 [] fun _=>?_;subst e25;exact qr2
    refine gx L_ 5 ?_;refine q1 (sslo L_ 1 rfl rfl rfl rfl rfl (by omega)) rfl fun w30=>?_;refine cV e29 R25_ (H3_ _ _) rfl fun r1 hr31 e33 w32=>?_;have hA33:=lnum_r (s1.drop 1) 31 (by omega)
    (try rw[<- hr31] at hA33)
    refine gx L_ 18 ?_;refine cN e33 (fun p37 e38=>?_) (fun p41 e42=>?_)
    · refine gm L_ 15 [] fun _=>?_;subst e38;exact qr2
    refine gx L_ 8 ?_;refine cD e42 (fun p44 e45=>?_) (fun p47 e48=>?_)
    · refine gm L_ 14 [] fun _=>?_;subst e45;exact qr2
    refine gx L_ 4 ?_;refine aN [2,3,4,5,6,7] 7 mixd ?_;have :=wr_u32 ((BitVec.ofInt (IntKind.bits .u32) x.set_ |||BitVec.ofInt (IntKind.bits .u32) (IntKind.wrap .u32 (1*2 ^ (min (r1.1:Int).toNat (IntKind.bits .u32))))).toNat)
    refine gXy L_ [0,1,2,3,4,5] 1 ?_;refine vT 6 rfl (sO L_ ?_);refine vD ?_;refine gx L_ 8 ?_;refine next ⟨f1,r1.2.1,r1.1,(⟨x.level,(IntKind.wrap .u32 ((BitVec.ofInt (IntKind.bits .u32) x.set_ |||BitVec.ofInt (IntKind.bits .u32) (IntKind.wrap .u32 (1*2 ^ (min (r1.1:Int).toNat (IntKind.bits .u32))))).toNat))⟩:H_)⟩ rfl rfl ⟨rfl,rfl,trivial⟩ ⟨rfl,trivial⟩ ?_ ?_
    · (try simp only[]);omega
    exact⟨(by simp only[List.length_drop] at *;omega),e48,trivial⟩
  refine gm L_ 13 [] fun _=>?_;subst e50;exact qr2
abbrev R26_:(List Bs)->PV:=fun r=> .sl strc r
abbrev R27_:(Int×Int)->PV:=fun r=> .tup [.int .i64 r.1, .int .i64 r.2]
abbrev R28_:(H_×Int)->PV:=fun r=> .tup [.agg (H_.pc r.1), .int .i64 r.2]
theorem cb248:U_ Tryz.prog 248:=R_ Tryz.func248 (by kernel_rfl) (by kernel_rfl)
theorem cb299:U_ Tryz.prog 299:=R_ Tryz.func299 (by kernel_rfl) (by kernel_rfl)
theorem cb300:U_ Tryz.prog 300:=R_ Tryz.func300 (by kernel_rfl) (by kernel_rfl)
abbrev ty26v122:TI:=⟨.agg [(0,1),(1,1),(2,1),(3,1),(4,1)],5,88,[.int .i64 0, .int .i64 0, .val (.slice none 0 0), .val (.slice none 0 0), .val (.slice none 0 0)]⟩
def tbv122:Tb:=[(3,ty3),(9,ty9),(22,ty22),(23,ty23),(24,ty24),(26,ty26v122),(87,ty87),(92,ty92),(94,ty94),(244,P4_)]
theorem G_:tbB Tryz.prog tbv122=true:=by kernel_rfl
theorem Ni_ (s:Bs) (hs:plen s=true:=by first|assumption|decide +kernel):Fn Tryz.prog gb 179 [.str s] (.tup [.agg (E_.pc ((Fl_ s).1)), .int .i64 ((Fl_ s).2.1), .int .i64 ((Fl_ s).2.2)]):=by
  refine fC Tryz.func179 G_ Tryz.ntmps179 fun w N H hG=>?_;have s_l:s.length<=9223372036854775807:=w.1;have hpl:=plen_ok hs;have hpl1:=hpl.1;have hcl:=Sk_ 10 s;have e0:=Fl_.eq_1 s;generalize Fl_ s=z at e0 ⊢;refine gm G_ 16 [0,1] fun B2=>?_;refine call (strings_SplitL _ _ (by rfl) (by omega)) rfl rfl fun w4=>?_;refine gx G_ 5 ?_;refine Md_ (i:=1) (o:=2) (k:=5) (e:=94) 2 D_.pc rfl (by decide) rfl rfl ?_;refine Md_ (i:=1) (o:=3) (k:=1) (e:=3) 3 i64c rfl (by decide) rfl rfl ?_;refine Md_ (i:=1) (o:=4) (k:=3) (e:=87) 4 Ah_.pc rfl (by decide) rfl rfl ?_;refine loop (ι:=Nat×Int×Int×(List D_)×(List Int)×(List Ah_)×Value×Value×Value) [2,5,12,13] [0] (fun ⟨k,work,give_,places,slots,grants,u_places,u_slots,u_grants⟩=>[(14, .int .i64 (k:Int))]) (fun ⟨k,work,give_,places,slots,grants,u_places,u_slots,u_grants⟩=>[(1, .box (B2 1) 26 [.int .i64 work, .int .i64 give_, .osl 2, .osl 3, .osl 4]),(2, .arr u_places 5 94 D_.pc places),(3, .arr u_slots 1 3 i64c slots),(4, .arr u_grants 3 87 Ah_.pc grants)]) (fun ⟨k,work,give_,places,slots,grants,u_places,u_slots,u_grants⟩=>k<=(cuts 10 s).length/\z=Ac_ ((cuts 10 s).drop k) k work give_ places slots grants/\places.length<=k/\slots.length<=k/\grants.length<=k) (fun ⟨k,work,give_,places,slots,grants,u_places,u_slots,u_grants⟩=>(cuts 10 s).length-k) ⟨0,0,0,[],[],[],(.slice none 0 0),(.slice none 0 0),(.slice none 0 0)⟩ ⟨rfl,trivial⟩ ⟨rfl,rfl,rfl,rfl,trivial⟩ ?_ ?_
  · exact⟨Nat.zero_le _,e0,⟨by simp,by simp,by simp⟩⟩
  rintro⟨k,work,give_,places,slots,grants,u_places,u_slots,u_grants⟩ ⟨hp5_1,hp5_2,hp5_3⟩;refine gx G_ 6 ?_;refine cnd rfl (fun h6=>?_) (fun h6=>?_)
  · have p7:=dt h6;have e8:=Dt_ (f:=fun zz=>Ac_ zz k work give_ places slots grants) hp5_2 (G4_ (by omega)) (Ac_.eq_2 _ _ _ _ _ _ _ _);have hc9:=getG (xs:=cuts 10 s) (k:=k) (by omega);have hz_hc9:=hpl.2 (gt (cuts 10 s) k) (List.mem_of_getElem? hc9);have hy_hc9:=hz_hc9.2.1;refine gx G_ 7 ?_;refine q1 (qidx G_ k rfl rfl rfl hc9 rfl rfl rfl rfl) rfl fun w10=>?_;refine gx G_ 8 ?_;refine cV e8 R26_ (Nk_ _ (hn:=by assumption)) rfl fun r hr11 e13 w12=>?_;have hpw:=plen_w hs (show Gk_ (gt (cuts 10 s) k)=r from by first|assumption|exact Eq.symm (by assumption)) (by assumption);have hpw0:0<r.length->0<(gt r 0).length/\(gt r 0).length<=19:=fun q=>hpw _ (Jw_ q);refine gx G_ 11 ?_;refine q1g [25] rfl (fun hc=>qidx G_ 0 rfl rfl rfl (getG (by first|omega|(simp only[gOf,bl2] at *;omega))) rfl rfl rfl rfl) ⟨(fun hc=>hc),trivial⟩ rfl rfl rfl fun _=>?_;have :=u8r ((gt r 0).getD 0 0);refine gy G_ 1 ?_;refine q1g [27] rfl (fun hc=>sidx G_ 0 rfl rfl rfl rfl rfl (by first|omega|(simp only[gOf,bl2] at *;omega))) ⟨(fun hc=>hc),trivial⟩ rfl rfl rfl fun _=>?_;refine gy G_ 4 ?_;refine cE e13 (fun h14 e15=>?_) (fun h14 e20=>?_)
    · refine gy G_ 8 ?_;refine next ⟨(k+1),work,give_,places,slots,grants,(u_places),(u_slots),(u_grants)⟩ rfl rfl ⟨rfl,trivial⟩ ⟨rfl,rfl,rfl,rfl,trivial⟩ ?_ ?_
      · (try simp only[]);omega
      exact⟨by (try simp only[]);omega,e15,⟨(by (try simp only[List.length_append,List.length_cons,List.length_nil]);omega),(by (try simp only[List.length_append,List.length_cons,List.length_nil]);omega),(by (try simp only[List.length_append,List.length_cons,List.length_nil]);omega)⟩⟩
    have h16:=orl h14;have p17:=df h16;have h18:=orr h14;have p19:=df h18;refine gx G_ 5 ?_;refine hinl [] G_ Tryz.func248 rfl Tryz.ntmps248 cb248 rfl rfl rfl rfl fun Hc21 hHc21=>?_;have hc22:=getG (xs:=r) (k:=0) (by omega);have hz_hc22:=hpw (gt r 0) (List.mem_of_getElem? hc22);refine gx G_ 14 ?_;refine q1 (qidx G_ 0 rfl rfl rfl hc22 rfl rfl rfl rfl) rfl fun w23=>?_;refine gx G_ 10 ?_;refine cE e20 (fun h24 e26=>?_) (fun h24 e141=>?_)
    · have p25:=dt h24;refine gx G_ 14 ?_;refine cN e26 (fun p29 e30=>?_) (fun p33 e34=>?_)
      · refine gx G_ 7 ?_;refine inlr rfl rfl rfl trivial ?_;refine gx G_ 9 ?_;refine cndT rfl (by decide) ?_;refine gmy G_ 17 [] fun _=>?_;subst e30;exact rt3 rfl rfl (Db_ (A_ (Dv_ (A_ (ple rfl) (A_ (ple rfl) (A_ M_ (A_ M_ (A_ M_ Q_)))))) (A_ (ple rfl) (A_ (ple rfl) Q_))))
      refine gx G_ 11 ?_;refine q1 (qidx G_ 0 rfl rfl rfl hc22 rfl rfl rfl rfl) rfl fun w35=>?_;refine gx G_ 10 ?_;refine cD e34 (fun p37 e38=>?_) (fun p53 e54=>?_)
      · have hc39:=getG (xs:=r) (k:=1) (by omega);have hz_hc39:=hpw (gt r 1) (List.mem_of_getElem? hc39);refine gx G_ 3 ?_;refine q1 (qidx G_ 1 rfl rfl rfl hc39 rfl rfl rfl rfl) rfl fun w40=>?_;refine gx G_ 1 ?_;refine cV e38 R27_ (Cx_ _) rfl fun r1 hr41 e43 w42=>?_;refine gm G_ 17 [] fun _=>?_;refine inlr rfl rfl rfl trivial ?_;refine gx G_ 9 ?_;refine cN e43 (fun p47 e48=>?_) (fun p51 e52=>?_)
        · refine gmy G_ 17 [] fun _=>?_;subst e48;exact rt3 rfl rfl (Db_ (A_ (Dv_ (A_ (ple rfl) (A_ (ple rfl) (A_ M_ (A_ M_ (A_ M_ Q_)))))) (A_ (ple rfl) (A_ (ple rfl) Q_))))
        refine gy G_ 7 ?_;refine next ⟨(k+1),r1.1,give_,places,slots,grants,(u_places),(u_slots),(u_grants)⟩ rfl rfl ⟨rfl,trivial⟩ ⟨rfl,rfl,rfl,rfl,trivial⟩ ?_ ?_
        · (try simp only[]);omega
        exact⟨by (try simp only[]);omega,e52,⟨(by (try simp only[List.length_append,List.length_cons,List.length_nil]);omega),(by (try simp only[List.length_append,List.length_cons,List.length_nil]);omega),(by (try simp only[List.length_append,List.length_cons,List.length_nil]);omega)⟩⟩
      refine gx G_ 6 ?_;refine cD e54 (fun p56 e57=>?_) (fun p72 e73=>?_)
      · have hc58:=getG (xs:=r) (k:=1) (by omega);have hz_hc58:=hpw (gt r 1) (List.mem_of_getElem? hc58);refine gx G_ 3 ?_;refine q1 (qidx G_ 1 rfl rfl rfl hc58 rfl rfl rfl rfl) rfl fun w59=>?_;refine gx G_ 1 ?_;refine cV e57 R27_ (Cx_ _) rfl fun r2 hr60 e62 w61=>?_;refine gm G_ 17 [] fun _=>?_;refine inlr rfl rfl rfl trivial ?_;refine gx G_ 9 ?_;refine cN e62 (fun p66 e67=>?_) (fun p70 e71=>?_)
        · refine gmy G_ 17 [] fun _=>?_;subst e67;exact rt3 rfl rfl (Db_ (A_ (Dv_ (A_ (ple rfl) (A_ (ple rfl) (A_ M_ (A_ M_ (A_ M_ Q_)))))) (A_ (ple rfl) (A_ (ple rfl) Q_))))
        refine gy G_ 7 ?_;refine next ⟨(k+1),work,r2.1,places,slots,grants,(u_places),(u_slots),(u_grants)⟩ rfl rfl ⟨rfl,trivial⟩ ⟨rfl,rfl,rfl,rfl,trivial⟩ ?_ ?_
        · (try simp only[]);omega
        exact⟨by (try simp only[]);omega,e71,⟨(by (try simp only[List.length_append,List.length_cons,List.length_nil]);omega),(by (try simp only[List.length_append,List.length_cons,List.length_nil]);omega),(by (try simp only[List.length_append,List.length_cons,List.length_nil]);omega)⟩⟩
      refine gx G_ 6 ?_;refine cD e73 (fun p75 e76=>?_) (fun p92 e93=>?_)
      · refine gx G_ 6 ?_;refine aN [5,6,7,8,9,10] 12 mixd ?_;refine gX G_ [0,1,2,3] 8 ?_;have hc77:=getG (xs:=r) (k:=1) (by omega);have hz_hc77:=hpw (gt r 1) (List.mem_of_getElem? hc77);refine vq 4 (qidx G_ 1 rfl rfl rfl hc77 rfl rfl rfl rfl) rfl (by kernel_rfl) rfl fun w78=>?_;refine gX G_ [5] 6 ?_;refine vE 6 rfl (Qh_ (Ck_ (⟨work,give_,places,slots,grants⟩:E_) _) rfl rfl (.agg (.same _ (.same _ (.lend 2 rfl (.lend 3 rfl (.lend 4 rfl .nil))))) (.same _ .nil)) rfl ?_);generalize hr80:W_ (⟨work,give_,places,slots,grants⟩:E_) (gt r 1)=r3;intro w79;have e81:=e76.trans (Fx_ hr80.symm);refine gX G_ [7,8,9,10,11] 0 ?_;refine vD ?_;refine gx G_ 8 ?_;refine ef (bsl 5 i64c [r3.1] G_ rfl rfl rfl rfl rfl (fun _=>rfl) rfl (by decide) (by decide) rfl fun u82=>?_);refine ef (app G_ [r3.1] rfl rfl rfl rfl rfl rfl rfl rfl rfl (src_o rfl rfl) (by first|omega|(simp;omega)) rfl fun u83=>?_);refine gx G_ 2 ?_;refine ef (F8_ G_ rfl rfl rfl rfl rfl rfl rfl rfl rfl ?_);refine gx G_ 10 ?_;refine inlr rfl rfl rfl trivial ?_;refine gx G_ 9 ?_;refine cN e81 (fun p86 e87=>?_) (fun p90 e91=>?_)
        · refine gmy G_ 17 [] fun _=>?_;subst e87;exact rt3 rfl rfl (Db_ (A_ (Dv_ (A_ (ple rfl) (A_ (ple rfl) (A_ M_ (A_ M_ (A_ M_ Q_)))))) (A_ (ple rfl) (A_ (ple rfl) Q_))))
        refine gy G_ 7 ?_;refine next ⟨(k+1),work,give_,places,(slots++[r3.1]),grants,(u_places),(u83),(u_grants)⟩ rfl rfl ⟨rfl,trivial⟩ ⟨rfl,rfl,rfl,rfl,trivial⟩ ?_ ?_
        · (try simp only[]);omega
        exact⟨by (try simp only[]);omega,e91,⟨(by (try simp only[List.length_append,List.length_cons,List.length_nil]);omega),(by (try simp only[List.length_append,List.length_cons,List.length_nil]);omega),(by (try simp only[List.length_append,List.length_cons,List.length_nil]);omega)⟩⟩
      refine gx G_ 6 ?_;refine cndT rfl h24 ?_;refine gx G_ 4 ?_;refine hinl [] G_ Tryz.func299 rfl Tryz.ntmps299 cb299 rfl rfl rfl rfl fun Hc94 hHc94=>?_;have hc95:=getG (xs:=r) (k:=2) (by omega);have hz_hc95:=hpw (gt r 2) (List.mem_of_getElem? hc95);refine gx G_ 8 ?_;refine q1 (qidx G_ 2 rfl rfl rfl hc95 rfl rfl rfl rfl) rfl fun w96=>?_;refine gx G_ 1 ?_;refine cV e93 R28_ (Fg_ _) rfl fun r4 hr97 e99 w98=>?_;refine gm G_ 15 [5] fun B101=>?_;refine cE e99 (fun h102 e105=>?_) (fun h102 e109=>?_)
      · have h103:=Cz_ h102;have p104:=df h103;refine gx G_ 8 ?_;refine inlr rfl rfl rfl trivial ?_;refine gx G_ 6 ?_;refine inlr rfl rfl rfl trivial ?_;refine gx G_ 9 ?_;refine cndT rfl h102 ?_;refine gmy G_ 17 [] fun _=>?_;subst e105;exact rt3 rfl rfl (Db_ (A_ (Dv_ (A_ (ple rfl) (A_ (ple rfl) (A_ M_ (A_ M_ (A_ M_ Q_)))))) (A_ (ple rfl) (A_ (ple rfl) Q_))))
      have h107:=Da_ h102;have p108:=dt h107;have hc110:=getG (xs:=r) (k:=3) (by omega);have hz_hc110:=hpw (gt r 3) (List.mem_of_getElem? hc110);refine gx G_ 5 ?_;refine q1 (qidx G_ 3 rfl rfl rfl hc110 rfl rfl rfl rfl) rfl fun w111=>?_;refine gx G_ 1 ?_;refine cV e109 R27_ (Cx_ _) rfl fun r5 hr112 e114 w113=>?_;refine gx G_ 14 ?_;refine cE e114 (fun h115 e118=>?_) (fun h115 e122=>?_)
      · have h116:=Cz_ h115;have p117:=df h116;refine gx G_ 8 ?_;refine inlr rfl rfl rfl trivial ?_;refine gx G_ 6 ?_;refine inlr rfl rfl rfl trivial ?_;refine gx G_ 9 ?_;refine cndT rfl h115 ?_;refine gmy G_ 17 [] fun _=>?_;subst e118;exact rt3 rfl rfl (Db_ (A_ (Dv_ (A_ (ple rfl) (A_ (ple rfl) (A_ M_ (A_ M_ (A_ M_ Q_)))))) (A_ (ple rfl) (A_ (ple rfl) Q_))))
      have h120:=Da_ h115;have p121:=dt h120;have hc123:=getG (xs:=r) (k:=4) (by omega);have hz_hc123:=hpw (gt r 4) (List.mem_of_getElem? hc123);refine gx G_ 5 ?_;refine q1 (qidx G_ 4 rfl rfl rfl hc123 rfl rfl rfl rfl) rfl fun w124=>?_;refine gx G_ 1 ?_;refine cV e122 R24_ (In_ _ _) rfl fun r6 hr125 e127 w126=>?_;refine gx G_ 8 ?_;refine aN [2,6,7,8,9,10,11] 17 mixd ?_;refine gX G_ [0,1,2,3,4,5] 11 ?_;have hc128:=getG (xs:=r) (k:=1) (by omega);have hz_hc128:=hpw (gt r 1) (List.mem_of_getElem? hc128);refine vq 6 (qidx G_ 1 rfl rfl rfl hc128 rfl rfl rfl rfl) rfl (by kernel_rfl) rfl fun w129=>?_;refine gX G_ [7,8,9,10,11] 5 ?_;refine vE 12 rfl (bsl 6 D_.pc [(⟨(gt r 1),r4.1,r5.1,r6.1⟩:D_)] G_ rfl rfl rfl rfl rfl (fun _=>rfl) rfl (by decide) (by decide) rfl fun u130=>?_);refine vE 13 rfl (app G_ [(⟨(gt r 1),r4.1,r5.1,r6.1⟩:D_)] rfl rfl rfl rfl rfl rfl rfl rfl rfl (src_o rfl rfl) (by first|omega|(simp;omega)) rfl fun u131=>?_);refine gX G_ [14,15] 1 ?_;refine vtp 16 rfl (by kernel_rfl) (by kernel_rfl) (F8_ G_ rfl rfl rfl rfl rfl rfl rfl rfl rfl ?_);refine vD ?_;refine gx G_ 8 ?_;refine inlr rfl rfl rfl trivial ?_;refine gx G_ 6 ?_;refine inlr rfl rfl rfl trivial ?_;refine gx G_ 9 ?_;refine cN e127 (fun p134 e135=>?_) (fun p138 e139=>?_)
      · refine gmy G_ 17 [] fun _=>?_;subst e135;exact rt3 rfl rfl (Db_ (A_ (Dv_ (A_ (ple rfl) (A_ (ple rfl) (A_ M_ (A_ M_ (A_ M_ Q_)))))) (A_ (ple rfl) (A_ (ple rfl) Q_))))
      refine gy G_ 7 ?_;refine next ⟨(k+1),work,give_,(places++[(⟨(gt r 1),r4.1,r5.1,r6.1⟩:D_)]),slots,grants,(u131),(u_slots),(u_grants)⟩ rfl rfl ⟨rfl,trivial⟩ ⟨rfl,rfl,rfl,rfl,trivial⟩ ?_ ?_
      · (try simp only[]);omega
      exact⟨by (try simp only[]);omega,e139,⟨(by (try simp only[List.length_append,List.length_cons,List.length_nil]);omega),(by (try simp only[List.length_append,List.length_cons,List.length_nil]);omega),(by (try simp only[List.length_append,List.length_cons,List.length_nil]);omega)⟩⟩
    have p140:=df h24;refine gx G_ 6 ?_;refine cD e141 (fun p143 e144=>?_) (fun p254 e255=>?_)
    · refine gx G_ 14 ?_;refine cN e144 (fun p147 e148=>?_) (fun p151 e152=>?_)
      · refine gx G_ 7 ?_;refine inlr rfl rfl rfl trivial ?_;refine gx G_ 9 ?_;refine cndT rfl (by decide) ?_;refine gmy G_ 17 [] fun _=>?_;subst e148;exact rt3 rfl rfl (Db_ (A_ (Dv_ (A_ (ple rfl) (A_ (ple rfl) (A_ M_ (A_ M_ (A_ M_ Q_)))))) (A_ (ple rfl) (A_ (ple rfl) Q_))))
      refine gx G_ 11 ?_;refine q1 (qidx G_ 0 rfl rfl rfl hc22 rfl rfl rfl rfl) rfl fun w153=>?_;refine gx G_ 10 ?_;refine cD e152 (fun p155 e156=>?_) (fun p171 e172=>?_)
      · have hc157:=getG (xs:=r) (k:=1) (by omega);have hz_hc157:=hpw (gt r 1) (List.mem_of_getElem? hc157);refine gx G_ 3 ?_;refine q1 (qidx G_ 1 rfl rfl rfl hc157 rfl rfl rfl rfl) rfl fun w158=>?_;refine gx G_ 1 ?_;refine cV e156 R27_ (Cx_ _) rfl fun r7 hr159 e161 w160=>?_;refine gm G_ 17 [] fun _=>?_;refine inlr rfl rfl rfl trivial ?_;refine gx G_ 9 ?_;refine cN e161 (fun p165 e166=>?_) (fun p169 e170=>?_)
        · refine gmy G_ 17 [] fun _=>?_;subst e166;exact rt3 rfl rfl (Db_ (A_ (Dv_ (A_ (ple rfl) (A_ (ple rfl) (A_ M_ (A_ M_ (A_ M_ Q_)))))) (A_ (ple rfl) (A_ (ple rfl) Q_))))
        refine gy G_ 7 ?_;refine next ⟨(k+1),r7.1,give_,places,slots,grants,(u_places),(u_slots),(u_grants)⟩ rfl rfl ⟨rfl,trivial⟩ ⟨rfl,rfl,rfl,rfl,trivial⟩ ?_ ?_
        · (try simp only[]);omega
        exact⟨by (try simp only[]);omega,e170,⟨(by (try simp only[List.length_append,List.length_cons,List.length_nil]);omega),(by (try simp only[List.length_append,List.length_cons,List.length_nil]);omega),(by (try simp only[List.length_append,List.length_cons,List.length_nil]);omega)⟩⟩
      refine gx G_ 6 ?_;refine cD e172 (fun p174 e175=>?_) (fun p190 e191=>?_)
      · have hc176:=getG (xs:=r) (k:=1) (by omega);have hz_hc176:=hpw (gt r 1) (List.mem_of_getElem? hc176);refine gx G_ 3 ?_;refine q1 (qidx G_ 1 rfl rfl rfl hc176 rfl rfl rfl rfl) rfl fun w177=>?_;refine gx G_ 1 ?_;refine cV e175 R27_ (Cx_ _) rfl fun r8 hr178 e180 w179=>?_;refine gm G_ 17 [] fun _=>?_;refine inlr rfl rfl rfl trivial ?_;refine gx G_ 9 ?_;refine cN e180 (fun p184 e185=>?_) (fun p188 e189=>?_)
        · refine gmy G_ 17 [] fun _=>?_;subst e185;exact rt3 rfl rfl (Db_ (A_ (Dv_ (A_ (ple rfl) (A_ (ple rfl) (A_ M_ (A_ M_ (A_ M_ Q_)))))) (A_ (ple rfl) (A_ (ple rfl) Q_))))
        refine gy G_ 7 ?_;refine next ⟨(k+1),work,r8.1,places,slots,grants,(u_places),(u_slots),(u_grants)⟩ rfl rfl ⟨rfl,trivial⟩ ⟨rfl,rfl,rfl,rfl,trivial⟩ ?_ ?_
        · (try simp only[]);omega
        exact⟨by (try simp only[]);omega,e189,⟨(by (try simp only[List.length_append,List.length_cons,List.length_nil]);omega),(by (try simp only[List.length_append,List.length_cons,List.length_nil]);omega),(by (try simp only[List.length_append,List.length_cons,List.length_nil]);omega)⟩⟩
      refine gx G_ 6 ?_;refine cD e191 (fun p193 e194=>?_) (fun p210 e211=>?_)
      · refine gx G_ 6 ?_;refine aN [5,6,7,8,9,10] 12 mixd ?_;refine gX G_ [0,1,2,3] 8 ?_;have hc195:=getG (xs:=r) (k:=1) (by omega);have hz_hc195:=hpw (gt r 1) (List.mem_of_getElem? hc195);refine vq 4 (qidx G_ 1 rfl rfl rfl hc195 rfl rfl rfl rfl) rfl (by kernel_rfl) rfl fun w196=>?_;refine gX G_ [5] 6 ?_;refine vE 6 rfl (Qh_ (Ck_ (⟨work,give_,places,slots,grants⟩:E_) _) rfl rfl (.agg (.same _ (.same _ (.lend 2 rfl (.lend 3 rfl (.lend 4 rfl .nil))))) (.same _ .nil)) rfl ?_);generalize hr198:W_ (⟨work,give_,places,slots,grants⟩:E_) (gt r 1)=r9;intro w197;have e199:=e194.trans (Fx_ hr198.symm);refine gX G_ [7,8,9,10,11] 0 ?_;refine vD ?_;refine gx G_ 8 ?_;refine ef (bsl 5 i64c [r9.1] G_ rfl rfl rfl rfl rfl (fun _=>rfl) rfl (by decide) (by decide) rfl fun u200=>?_);refine ef (app G_ [r9.1] rfl rfl rfl rfl rfl rfl rfl rfl rfl (src_o rfl rfl) (by first|omega|(simp;omega)) rfl fun u201=>?_);refine gx G_ 2 ?_;refine ef (F8_ G_ rfl rfl rfl rfl rfl rfl rfl rfl rfl ?_);refine gx G_ 10 ?_;refine inlr rfl rfl rfl trivial ?_;refine gx G_ 9 ?_;refine cN e199 (fun p204 e205=>?_) (fun p208 e209=>?_)
        · refine gmy G_ 17 [] fun _=>?_;subst e205;exact rt3 rfl rfl (Db_ (A_ (Dv_ (A_ (ple rfl) (A_ (ple rfl) (A_ M_ (A_ M_ (A_ M_ Q_)))))) (A_ (ple rfl) (A_ (ple rfl) Q_))))
        refine gy G_ 7 ?_;refine next ⟨(k+1),work,give_,places,(slots++[r9.1]),grants,(u_places),(u201),(u_grants)⟩ rfl rfl ⟨rfl,trivial⟩ ⟨rfl,rfl,rfl,rfl,trivial⟩ ?_ ?_
        · (try simp only[]);omega
        exact⟨by (try simp only[]);omega,e209,⟨(by (try simp only[List.length_append,List.length_cons,List.length_nil]);omega),(by (try simp only[List.length_append,List.length_cons,List.length_nil]);omega),(by (try simp only[List.length_append,List.length_cons,List.length_nil]);omega)⟩⟩
      refine gx G_ 6 ?_;refine cndF rfl h24 ?_;refine gx G_ 4 ?_;refine hinl [] G_ Tryz.func300 rfl Tryz.ntmps300 cb300 rfl rfl rfl rfl fun Hc212 hHc212=>?_;refine gx G_ 6 ?_;refine aN [5,6,7,8,9,10] 12 mixd ?_;refine gX G_ [0,1,2,3] 8 ?_;have hc213:=getG (xs:=r) (k:=1) (by omega);have hz_hc213:=hpw (gt r 1) (List.mem_of_getElem? hc213);refine vq 4 (qidx G_ 1 rfl rfl rfl hc213 rfl rfl rfl rfl) rfl (by kernel_rfl) rfl fun w214=>?_;refine gX G_ [5] 6 ?_;refine vE 6 rfl (Qh_ (Ck_ (⟨work,give_,places,slots,grants⟩:E_) _) rfl rfl (.agg (.same _ (.same _ (.lend 2 rfl (.lend 3 rfl (.lend 4 rfl .nil))))) (.same _ .nil)) rfl ?_);generalize hr216:W_ (⟨work,give_,places,slots,grants⟩:E_) (gt r 1)=r10;intro w215;have e217:=e211.trans (Fx_ hr216.symm);refine gX G_ [7,8,9,10,11] 0 ?_;refine vD ?_;refine gx G_ 8 ?_;refine cE e217 (fun h218 e221=>?_) (fun h218 e225=>?_)
      · have h219:=Cz_ h218;have p220:=df h219;refine gx G_ 8 ?_;refine inlr rfl rfl rfl trivial ?_;refine gx G_ 6 ?_;refine inlr rfl rfl rfl trivial ?_;refine gx G_ 9 ?_;refine cndT rfl h218 ?_;refine gmy G_ 17 [] fun _=>?_;subst e221;exact rt3 rfl rfl (Db_ (A_ (Dv_ (A_ (ple rfl) (A_ (ple rfl) (A_ M_ (A_ M_ (A_ M_ Q_)))))) (A_ (ple rfl) (A_ (ple rfl) Q_))))
      have h223:=Da_ h218;have p224:=dt h223;refine gx G_ 3 ?_;refine aN [5,6,7,8,9,10] 12 mixd ?_;refine gX G_ [0,1,2,3] 8 ?_;have hc226:=getG (xs:=r) (k:=2) (by omega);have hz_hc226:=hpw (gt r 2) (List.mem_of_getElem? hc226);refine vq 4 (qidx G_ 2 rfl rfl rfl hc226 rfl rfl rfl rfl) rfl (by kernel_rfl) rfl fun w227=>?_;refine gX G_ [5] 6 ?_;refine vE 6 rfl (Qh_ (Ck_ (⟨work,give_,places,slots,grants⟩:E_) _) rfl rfl (.agg (.same _ (.same _ (.lend 2 rfl (.lend 3 rfl (.lend 4 rfl .nil))))) (.same _ .nil)) rfl ?_);generalize hr229:W_ (⟨work,give_,places,slots,grants⟩:E_) (gt r 2)=r11;intro w228;have e230:=e225.trans (Fx_ hr229.symm);refine gX G_ [7,8,9,10,11] 0 ?_;refine vD ?_;refine gx G_ 8 ?_;refine cE e230 (fun h231 e234=>?_) (fun h231 e238=>?_)
      · have h232:=Cz_ h231;have p233:=df h232;refine gx G_ 8 ?_;refine inlr rfl rfl rfl trivial ?_;refine gx G_ 6 ?_;refine inlr rfl rfl rfl trivial ?_;refine gx G_ 9 ?_;refine cndT rfl h231 ?_;refine gmy G_ 17 [] fun _=>?_;subst e234;exact rt3 rfl rfl (Db_ (A_ (Dv_ (A_ (ple rfl) (A_ (ple rfl) (A_ M_ (A_ M_ (A_ M_ Q_)))))) (A_ (ple rfl) (A_ (ple rfl) Q_))))
      have h236:=Da_ h231;have p237:=dt h236;have hc239:=getG (xs:=r) (k:=3) (by omega);have hz_hc239:=hpw (gt r 3) (List.mem_of_getElem? hc239);refine gx G_ 5 ?_;refine q1 (qidx G_ 3 rfl rfl rfl hc239 rfl rfl rfl rfl) rfl fun w240=>?_;refine gx G_ 1 ?_;refine cV e238 R27_ (Cx_ _) rfl fun r12 hr241 e243 w242=>?_;refine gx G_ 18 ?_;refine ef (bsl 5 Ah_.pc [(⟨r10.1,r11.1,r12.1⟩:Ah_)] G_ rfl rfl rfl rfl rfl (fun _=>rfl) rfl (by decide) (by decide) rfl fun u244=>?_);refine ef (app G_ [(⟨r10.1,r11.1,r12.1⟩:Ah_)] rfl rfl rfl rfl rfl rfl rfl rfl rfl (src_o rfl rfl) (by first|omega|(simp;omega)) rfl fun u245=>?_);refine gx G_ 2 ?_;refine ef (F8_ G_ rfl rfl rfl rfl rfl rfl rfl rfl rfl ?_);refine gx G_ 9 ?_;refine inlr rfl rfl rfl trivial ?_;refine gx G_ 6 ?_;refine inlr rfl rfl rfl trivial ?_;refine gx G_ 9 ?_;refine cN e243 (fun p248 e249=>?_) (fun p252 e253=>?_)
      · refine gmy G_ 17 [] fun _=>?_;subst e249;exact rt3 rfl rfl (Db_ (A_ (Dv_ (A_ (ple rfl) (A_ (ple rfl) (A_ M_ (A_ M_ (A_ M_ Q_)))))) (A_ (ple rfl) (A_ (ple rfl) Q_))))
      refine gy G_ 7 ?_;refine next ⟨(k+1),work,give_,places,slots,(grants++[(⟨r10.1,r11.1,r12.1⟩:Ah_)]),(u_places),(u_slots),(u245)⟩ rfl rfl ⟨rfl,trivial⟩ ⟨rfl,rfl,rfl,rfl,trivial⟩ ?_ ?_
      · (try simp only[]);omega
      exact⟨by (try simp only[]);omega,e253,⟨(by (try simp only[List.length_append,List.length_cons,List.length_nil]);omega),(by (try simp only[List.length_append,List.length_cons,List.length_nil]);omega),(by (try simp only[List.length_append,List.length_cons,List.length_nil]);omega)⟩⟩
    refine gx G_ 7 ?_;refine cE e255 (fun h256 e258=>?_) (fun h256 e283=>?_)
    · have p257:=dt h256;refine gx G_ 2 ?_;refine cndT rfl h256 ?_;refine gx G_ 12 ?_;refine cN e258 (fun p261 e262=>?_) (fun p265 e266=>?_)
      · refine gx G_ 7 ?_;refine inlr rfl rfl rfl trivial ?_;refine gx G_ 9 ?_;refine cndT rfl (by decide) ?_;refine gmy G_ 17 [] fun _=>?_;subst e262;exact rt3 rfl rfl (Db_ (A_ (Dv_ (A_ (ple rfl) (A_ (ple rfl) (A_ M_ (A_ M_ (A_ M_ Q_)))))) (A_ (ple rfl) (A_ (ple rfl) Q_))))
      refine gx G_ 11 ?_;refine q1 (qidx G_ 0 rfl rfl rfl hc22 rfl rfl rfl rfl) rfl fun w267=>?_;refine gx G_ 10 ?_;refine cndT rfl h256 ?_;have hc268:=getG (xs:=r) (k:=1) (by omega);have hz_hc268:=hpw (gt r 1) (List.mem_of_getElem? hc268);refine gx G_ 3 ?_;refine q1 (qidx G_ 1 rfl rfl rfl hc268 rfl rfl rfl rfl) rfl fun w269=>?_;refine gx G_ 1 ?_;refine cV e266 R27_ (Cx_ _) rfl fun r13 hr270 e272 w271=>?_;refine gm G_ 17 [] fun _=>?_;refine inlr rfl rfl rfl trivial ?_;refine gx G_ 9 ?_;refine cN e272 (fun p276 e277=>?_) (fun p280 e281=>?_)
      · refine gmy G_ 17 [] fun _=>?_;subst e277;exact rt3 rfl rfl (Db_ (A_ (Dv_ (A_ (ple rfl) (A_ (ple rfl) (A_ M_ (A_ M_ (A_ M_ Q_)))))) (A_ (ple rfl) (A_ (ple rfl) Q_))))
      refine gy G_ 7 ?_;refine next ⟨(k+1),r13.1,give_,places,slots,grants,(u_places),(u_slots),(u_grants)⟩ rfl rfl ⟨rfl,trivial⟩ ⟨rfl,rfl,rfl,rfl,trivial⟩ ?_ ?_
      · (try simp only[]);omega
      exact⟨by (try simp only[]);omega,e281,⟨(by (try simp only[List.length_append,List.length_cons,List.length_nil]);omega),(by (try simp only[List.length_append,List.length_cons,List.length_nil]);omega),(by (try simp only[List.length_append,List.length_cons,List.length_nil]);omega)⟩⟩
    have p282:=df h256;refine gx G_ 6 ?_;refine cE e283 (fun h284 e286=>?_) (fun h284 e311=>?_)
    · have p285:=dt h284;refine gx G_ 2 ?_;refine cndT rfl h284 ?_;refine gx G_ 12 ?_;refine cN e286 (fun p289 e290=>?_) (fun p293 e294=>?_)
      · refine gx G_ 7 ?_;refine inlr rfl rfl rfl trivial ?_;refine gx G_ 9 ?_;refine cndT rfl (by decide) ?_;refine gmy G_ 17 [] fun _=>?_;subst e290;exact rt3 rfl rfl (Db_ (A_ (Dv_ (A_ (ple rfl) (A_ (ple rfl) (A_ M_ (A_ M_ (A_ M_ Q_)))))) (A_ (ple rfl) (A_ (ple rfl) Q_))))
      refine gx G_ 11 ?_;refine q1 (qidx G_ 0 rfl rfl rfl hc22 rfl rfl rfl rfl) rfl fun w295=>?_;refine gx G_ 10 ?_;refine cndF rfl h256 ?_;refine gx G_ 6 ?_;refine cndT rfl h284 ?_;have hc296:=getG (xs:=r) (k:=1) (by omega);have hz_hc296:=hpw (gt r 1) (List.mem_of_getElem? hc296);refine gx G_ 3 ?_;refine q1 (qidx G_ 1 rfl rfl rfl hc296 rfl rfl rfl rfl) rfl fun w297=>?_;refine gx G_ 1 ?_;refine cV e294 R27_ (Cx_ _) rfl fun r14 hr298 e300 w299=>?_;refine gm G_ 17 [] fun _=>?_;refine inlr rfl rfl rfl trivial ?_;refine gx G_ 9 ?_;refine cN e300 (fun p304 e305=>?_) (fun p308 e309=>?_)
      · refine gmy G_ 17 [] fun _=>?_;subst e305;exact rt3 rfl rfl (Db_ (A_ (Dv_ (A_ (ple rfl) (A_ (ple rfl) (A_ M_ (A_ M_ (A_ M_ Q_)))))) (A_ (ple rfl) (A_ (ple rfl) Q_))))
      refine gy G_ 7 ?_;refine next ⟨(k+1),work,r14.1,places,slots,grants,(u_places),(u_slots),(u_grants)⟩ rfl rfl ⟨rfl,trivial⟩ ⟨rfl,rfl,rfl,rfl,trivial⟩ ?_ ?_
      · (try simp only[]);omega
      exact⟨by (try simp only[]);omega,e309,⟨(by (try simp only[List.length_append,List.length_cons,List.length_nil]);omega),(by (try simp only[List.length_append,List.length_cons,List.length_nil]);omega),(by (try simp only[List.length_append,List.length_cons,List.length_nil]);omega)⟩⟩
    have p310:=df h284;refine gx G_ 5 ?_;refine cE e311 (fun h312 e314=>?_) (fun h312 e340=>?_)
    · have p313:=dt h312;refine gx G_ 12 ?_;refine cN e314 (fun p317 e318=>?_) (fun p321 e322=>?_)
      · refine gx G_ 7 ?_;refine inlr rfl rfl rfl trivial ?_;refine gx G_ 9 ?_;refine cndT rfl (by decide) ?_;refine gmy G_ 17 [] fun _=>?_;subst e318;exact rt3 rfl rfl (Db_ (A_ (Dv_ (A_ (ple rfl) (A_ (ple rfl) (A_ M_ (A_ M_ (A_ M_ Q_)))))) (A_ (ple rfl) (A_ (ple rfl) Q_))))
      refine gx G_ 11 ?_;refine q1 (qidx G_ 0 rfl rfl rfl hc22 rfl rfl rfl rfl) rfl fun w323=>?_;refine gx G_ 10 ?_;refine cndF rfl h256 ?_;refine gx G_ 6 ?_;refine cndF rfl h284 ?_;refine gx G_ 6 ?_;refine cndT rfl h312 ?_;refine gx G_ 6 ?_;refine aN [5,6,7,8,9,10] 12 mixd ?_;refine gX G_ [0,1,2,3] 8 ?_;have hc324:=getG (xs:=r) (k:=1) (by omega);have hz_hc324:=hpw (gt r 1) (List.mem_of_getElem? hc324);refine vq 4 (qidx G_ 1 rfl rfl rfl hc324 rfl rfl rfl rfl) rfl (by kernel_rfl) rfl fun w325=>?_;refine gX G_ [5] 6 ?_;refine vE 6 rfl (Qh_ (Ck_ (⟨work,give_,places,slots,grants⟩:E_) _) rfl rfl (.agg (.same _ (.same _ (.lend 2 rfl (.lend 3 rfl (.lend 4 rfl .nil))))) (.same _ .nil)) rfl ?_);generalize hr327:W_ (⟨work,give_,places,slots,grants⟩:E_) (gt r 1)=r15;intro w326;have e328:=e322.trans (Fx_ hr327.symm);refine gX G_ [7,8,9,10,11] 0 ?_;refine vD ?_;refine gx G_ 8 ?_;refine ef (bsl 5 i64c [r15.1] G_ rfl rfl rfl rfl rfl (fun _=>rfl) rfl (by decide) (by decide) rfl fun u329=>?_);refine ef (app G_ [r15.1] rfl rfl rfl rfl rfl rfl rfl rfl rfl (src_o rfl rfl) (by first|omega|(simp;omega)) rfl fun u330=>?_);refine gx G_ 2 ?_;refine ef (F8_ G_ rfl rfl rfl rfl rfl rfl rfl rfl rfl ?_);refine gx G_ 10 ?_;refine inlr rfl rfl rfl trivial ?_;refine gx G_ 9 ?_;refine cN e328 (fun p333 e334=>?_) (fun p337 e338=>?_)
      · refine gmy G_ 17 [] fun _=>?_;subst e334;exact rt3 rfl rfl (Db_ (A_ (Dv_ (A_ (ple rfl) (A_ (ple rfl) (A_ M_ (A_ M_ (A_ M_ Q_)))))) (A_ (ple rfl) (A_ (ple rfl) Q_))))
      refine gy G_ 7 ?_;refine next ⟨(k+1),work,give_,places,(slots++[r15.1]),grants,(u_places),(u330),(u_grants)⟩ rfl rfl ⟨rfl,trivial⟩ ⟨rfl,rfl,rfl,rfl,trivial⟩ ?_ ?_
      · (try simp only[]);omega
      exact⟨by (try simp only[]);omega,e338,⟨(by (try simp only[List.length_append,List.length_cons,List.length_nil]);omega),(by (try simp only[List.length_append,List.length_cons,List.length_nil]);omega),(by (try simp only[List.length_append,List.length_cons,List.length_nil]);omega)⟩⟩
    have p339:=df h312;refine gx G_ 8 ?_;refine inlr rfl rfl rfl trivial ?_;refine gx G_ 9 ?_;refine cndT rfl (by decide) ?_;refine gmy G_ 17 [] fun _=>?_;subst e340;exact rt3 rfl rfl (Db_ (A_ (Dv_ (A_ (ple rfl) (A_ (ple rfl) (A_ M_ (A_ M_ (A_ M_ Q_)))))) (A_ (ple rfl) (A_ (ple rfl) Q_))))
  have p342:=df h6;have e343:=Dt_ (f:=fun zz=>Ac_ zz k work give_ places slots grants) hp5_2 (G5_ (by omega)) (Ac_.eq_1 _ _ _ _ _ _);refine gx G_ 8 ?_;refine give 2 rfl ?_;refine give 3 rfl ?_;refine give 4 rfl ?_;refine gx G_ 1 ?_;refine cV e343 R0_ (Ip_ (⟨work,give_,places,slots,grants⟩:E_)) rfl fun r16 hr344 e346 w345=>?_;refine gx G_ 9 ?_;refine cN e346 (fun p349 e350=>?_) (fun p353 e354=>?_)
  · refine gm G_ 11 [] fun _=>?_;subst e350;exact rt3 rfl rfl (Db_ (A_ (Dv_ (A_ (ple rfl) (A_ (ple rfl) (A_ M_ (A_ M_ (A_ M_ Q_)))))) (A_ (ple rfl) (A_ (ple rfl) Q_))))
  refine gm G_ 11 [] fun _=>?_;subst e354;exact qr3
abbrev R29_:(E_×Int×Int)->PV:=fun r=> .tup [.agg (E_.pc r.1), .int .i64 r.2.1, .int .i64 r.2.2]
abbrev R30_:(NoteR×Bool)->PV:=fun r=> .tup [.agg (NoteR.pc r.1), .bool r.2]
abbrev R31_:(RiseR×Int)->PV:=fun r=> .tup [.agg (RiseR.pc r.1), .int .i64 r.2]
abbrev R32_:(Int×Mail×Bool)->PV:=fun r=> .tup [.int .u64 r.1, .agg (Mail.pc r.2.1), .bool r.2.2]
def tbv125:Tb:=[(3,ty3),(5,ty5),(22,ty22),(26,ty26),(36,ty36),(40,ty40),(43,ty43),(46,ty46),(60,ty60),(65,ty65),(75,ty75),(92,ty92),(94,ty94),(102,Vn_),(160,Y1_)]
theorem Bb_:tbB Tryz.prog tbv125=true:=by kernel_rfl
theorem Qv_:Fn Tryz.prog gb 250 [] (.bool (Mu_)):=by
  refine fC Tryz.func250 Bb_ Tryz.ntmps250 fun w N H hG=>?_;have e0:=Mu_.eq_1;refine gx Bb_ 7 ?_;refine cV e0 R28_ (Fg_ _) rfl fun r hr1 e3 w2=>?_;refine gm Bb_ 10 [0] fun B5=>?_;refine cV e3 R28_ (Fg_ _) rfl fun r1 hr6 e8 w7=>?_;refine gm Bb_ 10 [1] fun B10=>?_;refine cV e8 R28_ (Fg_ _) rfl fun r2 hr11 e13 w12=>?_;refine gm Bb_ 10 [2] fun B15=>?_;refine call Ms_ rfl rfl fun w16=>?_;refine gx Bb_ 1 ?_;refine ungd rfl rfl ?_;refine gx Bb_ 1 ?_;refine ungd rfl rfl ?_;refine gy Bb_ 13 ?_;refine callg rfl (fun hc=>(Ed_ _ _)) rfl ⟨(fun hc=>hc),(fun hc=>hc),trivial⟩ rfl rfl fun _=>?_;refine gy Bb_ 4 ?_;refine callg rfl (fun hc=>(Ed_ _ _)) rfl ⟨(fun hc=>hc),(fun hc=>hc),trivial⟩ rfl rfl fun _=>?_;refine gy Bb_ 5 ?_;refine callg rfl (fun hc=>(Ed_ _ _)) rfl ⟨(fun hc=>hc),(fun hc=>hc),trivial⟩ rfl rfl fun _=>?_;refine gy Bb_ 6 ?_;exact rt1 rfl rfl (V_ (fun r:Bool=> .bool r) e13 (ple rfl))
theorem Qu_:Fn Tryz.prog gb 180 [] (.bool (Mt_)):=by
  refine fC Tryz.func180 Bb_ Tryz.ntmps180 fun w N H hG=>?_;have e0:=Mt_.eq_1;refine gx Bb_ 7 ?_;refine call Qv_ rfl rfl fun w1=>?_;refine gx Bb_ 4 ?_;exact rt1 rfl rfl (V_ (fun r:Bool=> .bool r) e0 (ple rfl))
theorem Qz_:Fn Tryz.prog gb 101 [] (.bool (Mw_)):=by
  refine fC Tryz.func101 Bb_ Tryz.ntmps101 fun w N H hG=>?_;have e0:=Mw_.eq_1;refine gx Bb_ 7 ?_;refine cV e0 R29_ (Ni_ _ (hs:=by exact plen05)) rfl fun r hr1 e3 w2=>?_;refine gm Bb_ 12 [0] fun B5=>?_;refine call Qu_ rfl rfl fun w6=>?_;refine gx Bb_ 1 ?_;refine callg rfl (fun hc=>Iv_) rfl trivial rfl rfl fun _=>?_;refine gy Bb_ 23 ?_;refine q1g [34] rfl (fun hc=>qidx Bb_ 0 rfl rfl rfl (getG (by first|omega|(simp only[gOf,bl2] at *;omega))) rfl rfl rfl rfl) ⟨(fun hc=>hc),trivial⟩ rfl rfl rfl fun _=>?_;refine gy Bb_ 8 ?_;exact rt1 rfl rfl (V_ (fun r:Bool=> .bool r) e3 (ple rfl))
theorem Qw_:Fn Tryz.prog gb 41 [] (.bool (Mv_)):=by
  refine fC Tryz.func41 Bb_ Tryz.ntmps41 fun w N H hG=>?_;have e0:=Mv_.eq_1;refine gx Bb_ 7 ?_;refine call Qz_ rfl rfl fun w1=>?_;refine gx Bb_ 4 ?_;exact rt1 rfl rfl (V_ (fun r:Bool=> .bool r) e0 (ple rfl))
theorem Q2_:Fn Tryz.prog gb 254 [] (.bool (Mz_)):=by
  refine fC Tryz.func254 Bb_ Tryz.ntmps254 fun w N H hG=>?_;have e0:=Mz_.eq_1;refine gx Bb_ 9 ?_;refine cV e0 R2_ (Gp_ (⟨[]⟩:LineR) (⟨3,[97],[],[],[],0,0⟩:Mail) (hh:=by first|omega|decide)) rfl fun r hr1 e3 w2=>?_;have hA3:=Pq_ (l:=(⟨[]⟩:LineR)) (m:=(⟨3,[97],[],[],[],0,0⟩:Mail)) (by first|assumption|exact Pu_) (by decide)
  (try rw[<- hr1] at hA3)
  refine gm Bb_ 12 [0] fun B6=>?_;refine cV e3 R2_ (Gp_ _ (⟨5,[97],[],[],[],0,0⟩:Mail) (hh:=by first|omega|decide)) rfl fun r1 hr7 e9 w8=>?_;have hA9:=Pq_ (l:=r.1) (m:=(⟨5,[97],[],[],[],0,0⟩:Mail)) (by first|assumption|exact Pu_) (by decide)
  (try rw[<- hr7] at hA9)
  refine gm Bb_ 10 [] fun _=>?_;refine cV e9 R7_ (F3_ _) rfl fun r2 hr12 e14 w13=>?_
  (try have hA14:=L3_ (l:=r1.1) (by assumption);(try rw[<- hr12] at hA14);obtain⟨hA14_0,hA14_1⟩:=hA14)
  refine gm Bb_ 13 [1] fun B17=>?_;refine cV e14 R7_ (F3_ _) rfl fun r3 hr18 e20 w19=>?_
  (try have hA20:=L3_ (l:=r2.1) (by assumption);(try rw[<- hr18] at hA20);obtain⟨hA20_0,hA20_1⟩:=hA20)
  refine gm Bb_ 13 [2] fun B23=>?_;refine cV e20 R2_ (H4_ _ _) rfl fun r4 hr24 e26 w25=>?_;have hA26:=Pr_ (l:=r3.1) (id:=3) (by assumption)
  (try rw[<- hr24] at hA26)
  refine gm Bb_ 10 [] fun _=>?_;refine cV e26 R4_ (Hn_ _) rfl fun r5 hr29 e31 w30=>?_;refine gm Bb_ 10 [3] fun B33=>?_;refine call Mx_ rfl rfl fun w34=>?_;refine gx Bb_ 1 ?_;refine ungd rfl rfl ?_;refine gx Bb_ 1 ?_;refine ungd rfl rfl ?_;refine gy Bb_ 40 ?_;exact rt1 rfl rfl (V_ (fun r:Bool=> .bool r) e31 (ple rfl))
theorem Q1_:Fn Tryz.prog gb 183 [] (.bool (My_)):=by
  refine fC Tryz.func183 Bb_ Tryz.ntmps183 fun w N H hG=>?_;have e0:=My_.eq_1;refine gx Bb_ 7 ?_;refine call Q2_ rfl rfl fun w1=>?_;refine gx Bb_ 4 ?_;exact rt1 rfl rfl (V_ (fun r:Bool=> .bool r) e0 (ple rfl))
theorem Q4_:Fn Tryz.prog gb 104 [] (.bool (Km_)):=by
  refine fC Tryz.func104 Bb_ Tryz.ntmps104 fun w N H hG=>?_;have e0:=Km_.eq_1;refine gm Bb_ 17 [0] fun B2=>?_;refine loop (ι:=Nat×Nat×C5_) [0,1] [] (fun ⟨f,v,x⟩=>[(7, .int .i64 (v:Int))]) (fun ⟨f,v,x⟩=>[(0, .box (B2 0) 46 (C5_.pc x))]) (fun ⟨f,v,x⟩=>40-v<f/\Km_=Hk_ f v x/\x.kept.length<=32) (fun ⟨f,v,x⟩=>f) ⟨(40-0+1),0,(⟨0,[]⟩:C5_)⟩ ⟨rfl,trivial⟩ ⟨rfl,trivial⟩ ?_ ?_
  · exact⟨Nat.lt_succ_self _,e0,by decide⟩
  rintro⟨f,v,x⟩ ⟨hp3_1,hp3_2,hp3_3⟩;obtain⟨f1,rfl⟩:∃ q,f=q+1:=⟨f-1,by omega⟩;have e_f1:=hp3_2.trans (Hk_.eq_2 _ _ _);refine gx Bb_ 6 ?_;refine cD e_f1 (fun p5 e6=>?_) (fun p12 e13=>?_)
  · refine gx Bb_ 15 ?_;refine cV e6 R9_ (Fs_ _ (⟨0,(IntKind.wrap .u8 (v:Int)),[]⟩:NoteR)) rfl fun r hr7 e9 w8=>?_;have hA9:=Py_ (n:=x) (x:=(⟨0,(IntKind.wrap .u8 (v:Int)),[]⟩:NoteR)) (by assumption)
    (try rw[<- hr7] at hA9)
    refine gmy Bb_ 11 [] fun _=>?_;refine next ⟨f1,(v+1),r.1⟩ rfl rfl ⟨rfl,trivial⟩ ⟨rfl,trivial⟩ ?_ ?_
    · (try simp only[]);omega
    exact⟨by (try simp only[]);omega,e9,by assumption⟩
  refine gx Bb_ 8 ?_;refine cV e13 R30_ (Hp_ _ _) rfl fun r1 hr14 e16 w15=>?_;refine gm Bb_ 11 [1] fun B18=>?_;refine cV e16 R30_ (Hp_ _ _) rfl fun r2 hr19 e21 w20=>?_;refine gm Bb_ 10 [2] fun B23=>?_;refine call Ms_ rfl rfl fun w24=>?_;refine gx Bb_ 1 ?_;refine ungd rfl rfl ?_;refine gy Bb_ 13 ?_;refine callg rfl (fun hc=>(Jm_ _)) rfl ⟨(fun hc=>hc),trivial⟩ rfl rfl fun _=>?_;refine gy Bb_ 6 ?_;exact rt1 rfl rfl (V_ (fun r:Bool=> .bool r) e21 (ple rfl))
theorem Q3_:Fn Tryz.prog gb 44 [] (.bool (M0_)):=by
  refine fC Tryz.func44 Bb_ Tryz.ntmps44 fun w N H hG=>?_;have e0:=M0_.eq_1;refine gx Bb_ 7 ?_;refine call Q4_ rfl rfl fun w1=>?_;refine gx Bb_ 4 ?_;exact rt1 rfl rfl (V_ (fun r:Bool=> .bool r) e0 (ple rfl))
theorem Q6_:Fn Tryz.prog gb 255 [] (.bool (Kn_)):=by
  refine fC Tryz.func255 Bb_ Tryz.ntmps255 fun w N H hG=>?_;have e0:=Kn_.eq_1;refine gm Bb_ 17 [0] fun B2=>?_;refine loop (ι:=Nat×Nat×RiseR) [0,1] [] (fun ⟨f,v,x⟩=>[(8, .int .i64 (v:Int))]) (fun ⟨f,v,x⟩=>[(0, .box (B2 0) 40 (RiseR.pc x))]) (fun ⟨f,v,x⟩=>20-v<f/\Kn_=Hl_ f v x/\RiOk x/\(x.total=0\/0<x.kept.length)) (fun ⟨f,v,x⟩=>f) ⟨(20-0+1),0,(⟨0,[]⟩:RiseR)⟩ ⟨rfl,trivial⟩ ⟨rfl,trivial⟩ ?_ ?_
  · exact⟨Nat.lt_succ_self _,e0,⟨Un_, .inl rfl⟩⟩
  rintro⟨f,v,x⟩ ⟨hp3_1,hp3_2,hp3_3⟩;obtain⟨hi1,hi2⟩:=hp3_3;obtain⟨f1,rfl⟩:∃ q,f=q+1:=⟨f-1,by omega⟩;have e_f1:=hp3_2.trans (Hl_.eq_2 _ _ _);refine gx Bb_ 6 ?_;refine cD e_f1 (fun p5 e6=>?_) (fun p13 e14=>?_)
  · refine gx Bb_ 7 ?_;refine cV e6 R31_ (Fi_ _ (⟨0,[97],[],[],[],0,0⟩:Mail) (hh:=by first|omega|decide)) rfl fun r hr7 e9 w8=>?_;have hA9:=Nm_ (x:=x) (m:=(⟨0,[97],[],[],[],0,0⟩:Mail)) (by assumption)
    (try rw[<- hr7] at hA9)
    have hA10:=rput_ne (x:=x) (m:=(⟨0,[97],[],[],[],0,0⟩:Mail)) (by assumption)
    (try rw[<- hr7] at hA10)
    refine gmy Bb_ 11 [] fun _=>?_;refine next ⟨f1,(v+1),r.1⟩ rfl rfl ⟨rfl,trivial⟩ ⟨rfl,trivial⟩ ?_ ?_
    · (try simp only[]);omega
    exact⟨by (try simp only[]);omega,e9,⟨by assumption,by assumption⟩⟩
  refine gx Bb_ 8 ?_;refine cV e14 R32_ (Hs_ _ _) rfl fun r1 hr15 e17 w16=>?_;refine gm Bb_ 13 [1] fun B19=>?_;refine cV e17 R32_ (Hs_ _ _) rfl fun r2 hr20 e22 w21=>?_;refine gm Bb_ 12 [2] fun B24=>?_;refine call Mx_ rfl rfl fun w25=>?_;refine gx Bb_ 1 ?_;refine ungd rfl rfl ?_;refine gx Bb_ 1 ?_;refine ungd rfl rfl ?_;refine gy Bb_ 13 ?_;exact rt1 rfl rfl (V_ (fun r:Bool=> .bool r) e22 (ple rfl))
theorem Q5_:Fn Tryz.prog gb 184 [] (.bool (M1_)):=by
  refine fC Tryz.func184 Bb_ Tryz.ntmps184 fun w N H hG=>?_;have e0:=M1_.eq_1;refine gx Bb_ 7 ?_;refine call Q6_ rfl rfl fun w1=>?_;refine gx Bb_ 4 ?_;exact rt1 rfl rfl (V_ (fun r:Bool=> .bool r) e0 (ple rfl))
theorem Q8_:Fn Tryz.prog gb 102 [] (.bool (M3_)):=by
  refine fC Tryz.func102 Bb_ Tryz.ntmps102 fun w N H hG=>?_;have e0:=M3_.eq_1;refine gx Bb_ 7 ?_;refine cV e0 R6_ (Ls_ _ _) rfl fun r hr1 e3 w2=>?_;have hA3:=knew_ok 7 100 (by decide)
  (try rw[<- hr1] at hA3)
  refine gx Bb_ 1 ?_;refine cV e3 R11_ (Hg_ _ (⟨[113],3,0,[]⟩:O_)) rfl fun r1 hr5 e7 w6=>?_;have hA7:=Pp_ (q:=(⟨[113],3,0,[]⟩:O_)) (s:=r) (by first|assumption|exact StOk.stk (by assumption))
  (try rw[<- hr5] at hA7)
  refine gm Bb_ 12 [0] fun B10=>?_;refine cV e7 R17_ (Hv_ _ _ (⟨0,[97],[],[],[],0,0⟩:Mail) (hh:=by first|omega|decide)) rfl fun r2 hr11 e13 w12=>?_
  (try have hA13:=Sw_ (s:=r1.1) (n:=[113]) (m:=(⟨0,[97],[],[],[],0,0⟩:Mail)) (by first|assumption|exact StOk.stk (by assumption)) (by (try simp only[]);omega);(try rw[<- hr11] at hA13);obtain⟨hA13_0,hA13_1,hA13_2⟩:=hA13)
  refine gm Bb_ 15 [1,2] fun B16=>?_;refine call Iv_ rfl rfl fun w18=>?_;refine gx Bb_ 1 ?_;refine ungd rfl rfl ?_;refine call Q1_ rfl rfl fun w19=>?_;refine gx Bb_ 2 ?_;refine callg rfl (fun hc=>Q5_) rfl trivial rfl rfl fun _=>?_;refine gy Bb_ 17 ?_;exact rt1 rfl rfl (V_ (fun r:Bool=> .bool r) e13 (ple rfl))
theorem Q7_:Fn Tryz.prog gb 42 [] (.bool (M2_)):=by
  refine fC Tryz.func42 Bb_ Tryz.ntmps42 fun w N H hG=>?_;have e0:=M2_.eq_1;refine gx Bb_ 7 ?_;refine call Q8_ rfl rfl fun w1=>?_;refine gx Bb_ 4 ?_;exact rt1 rfl rfl (V_ (fun r:Bool=> .bool r) e0 (ple rfl))
theorem cb22:U_ Tryz.prog 22:=R_ Tryz.func22 (by kernel_rfl) (by kernel_rfl)
def tbv126:Tb:=[(3,ty3),(9,ty9),(22,ty22),(23,ty23),(26,ty26),(27,ty27),(54,ty54),(58,ty58),(60,ty60),(63,ty63),(65,ty65),(67,ty67),(75,ty75),(77,ty77),(94,ty94)]
theorem Gx_:tbB Tryz.prog tbv126=true:=by kernel_rfl
theorem Q9_:Fn Tryz.prog gb 9 [] (.bool (Iw_)):=by
  refine fC Tryz.func9 Gx_ Tryz.ntmps9 fun w N H hG=>?_;have e0:=Iw_.eq_1;refine gx Gx_ 7 ?_;refine hinl [] Gx_ Tryz.func22 rfl Tryz.ntmps22 cb22 rfl rfl rfl rfl fun Hc1 hHc1=>?_;refine gm Gx_ 8 [0] fun B3=>?_;refine ef (bsl 1 D_.pc [(⟨[108,111,119],(⟨0,0⟩:H_),500,1⟩:D_)] Gx_ rfl rfl rfl rfl rfl (fun _=>rfl) rfl (by decide) (by decide) rfl fun u4=>?_);refine ef (bsl 2 i64c [0] Gx_ rfl rfl rfl rfl rfl (fun _=>rfl) rfl (by decide) (by decide) rfl fun u5=>?_);refine give 1 rfl ?_;refine give 2 rfl ?_;refine gm Gx_ 5 [] fun _=>?_;refine inlr rfl rfl rfl trivial ?_;refine cV e0 R21_ (Lt_ (⟨4,1,[(⟨[108,111,119],(⟨0,0⟩:H_),500,1⟩:D_)],[0],[]⟩:E_) _ (hp:=by first|assumption|exact poB_ok (by decide +kernel)) (hk:=by first|omega|decide +kernel)) rfl fun r hr7 e9 w8=>?_;have hA9:=new_ok (p:=(⟨4,1,[(⟨[108,111,119],(⟨0,0⟩:H_),500,1⟩:D_)],[0],[]⟩:E_)) (k:=0) (by first|assumption|exact poB_ok (by decide +kernel)) (by first|omega|(simp;done)|decide +kernel)
  (try rw[<- hr7] at hA9)
  refine gm Gx_ 13 [1] fun B12=>?_;refine ef (bsl 2 DeedR.pc [(⟨0,0,(⟨[97],1,[]⟩:ShopR),(⟨[],0,0,[]⟩:O_),(⟨[],[],false,[],[],false⟩:BindR),[],0,0,0,0,0,(⟨0,[],[],[],[],0,0⟩:Mail),[]⟩:DeedR),(⟨2,0,(⟨[],0,[]⟩:ShopR),(⟨[113],4,0,[]⟩:O_),(⟨[],[],false,[],[],false⟩:BindR),[],0,0,0,0,0,(⟨0,[],[],[],[],0,0⟩:Mail),[]⟩:DeedR),(⟨4,0,(⟨[],0,[]⟩:ShopR),(⟨[],0,0,[]⟩:O_),(⟨[97],[113],false,[],[],false⟩:BindR),[],0,0,0,0,0,(⟨0,[],[],[],[],0,0⟩:Mail),[]⟩:DeedR)] Gx_ rfl rfl rfl rfl rfl (fun _=>rfl) rfl (by decide) (by decide) rfl fun u13=>?_);refine gx Gx_ 5 ?_;refine givec 2 rfl ?_;refine loop (ι:=Nat×Nat×B_) [1,20,21] [0] (fun ⟨f,v,x⟩=>[(22, .int .i64 (v:Int))]) (fun ⟨f,v,x⟩=>[(1, .box (B12 0) 54 (B_.pc x))]) (fun ⟨f,v,x⟩=>([(⟨0,0,(⟨[97],1,[]⟩:ShopR),(⟨[],0,0,[]⟩:O_),(⟨[],[],false,[],[],false⟩:BindR),[],0,0,0,0,0,(⟨0,[],[],[],[],0,0⟩:Mail),[]⟩:DeedR),(⟨2,0,(⟨[],0,[]⟩:ShopR),(⟨[113],4,0,[]⟩:O_),(⟨[],[],false,[],[],false⟩:BindR),[],0,0,0,0,0,(⟨0,[],[],[],[],0,0⟩:Mail),[]⟩:DeedR),(⟨4,0,(⟨[],0,[]⟩:ShopR),(⟨[],0,0,[]⟩:O_),(⟨[97],[113],false,[],[],false⟩:BindR),[],0,0,0,0,0,(⟨0,[],[],[],[],0,0⟩:Mail),[]⟩:DeedR)].length)-v<f/\Iw_=Hm_ f v x/\StOk x) (fun ⟨f,v,x⟩=>f) ⟨(([(⟨0,0,(⟨[97],1,[]⟩:ShopR),(⟨[],0,0,[]⟩:O_),(⟨[],[],false,[],[],false⟩:BindR),[],0,0,0,0,0,(⟨0,[],[],[],[],0,0⟩:Mail),[]⟩:DeedR),(⟨2,0,(⟨[],0,[]⟩:ShopR),(⟨[113],4,0,[]⟩:O_),(⟨[],[],false,[],[],false⟩:BindR),[],0,0,0,0,0,(⟨0,[],[],[],[],0,0⟩:Mail),[]⟩:DeedR),(⟨4,0,(⟨[],0,[]⟩:ShopR),(⟨[],0,0,[]⟩:O_),(⟨[97],[113],false,[],[],false⟩:BindR),[],0,0,0,0,0,(⟨0,[],[],[],[],0,0⟩:Mail),[]⟩:DeedR)].length)-0+1),0,r⟩ ⟨rfl,trivial⟩ ⟨rfl,trivial⟩ ?_ ?_
  · exact⟨Nat.lt_succ_self _,e9,by assumption⟩
  rintro⟨f,v,x⟩ ⟨hp14_1,hp14_2,hp14_3⟩;have hlen0:([(⟨0,0,(⟨[97],1,[]⟩:ShopR),(⟨[],0,0,[]⟩:O_),(⟨[],[],false,[],[],false⟩:BindR),[],0,0,0,0,0,(⟨0,[],[],[],[],0,0⟩:Mail),[]⟩:DeedR),(⟨2,0,(⟨[],0,[]⟩:ShopR),(⟨[113],4,0,[]⟩:O_),(⟨[],[],false,[],[],false⟩:BindR),[],0,0,0,0,0,(⟨0,[],[],[],[],0,0⟩:Mail),[]⟩:DeedR),(⟨4,0,(⟨[],0,[]⟩:ShopR),(⟨[],0,0,[]⟩:O_),(⟨[97],[113],false,[],[],false⟩:BindR),[],0,0,0,0,0,(⟨0,[],[],[],[],0,0⟩:Mail),[]⟩:DeedR)]).length<=100:=by decide
  obtain⟨f1,rfl⟩:∃ q,f=q+1:=⟨f-1,by omega⟩;have e_f1:=hp14_2.trans (Hm_.eq_2 _ _ _);refine gx Gx_ 6 ?_;refine cD e_f1 (fun p16 e17=>?_) (fun p37 e38=>?_)
  · have hc18:=getG (xs:=[(⟨0,0,(⟨[97],1,[]⟩:ShopR),(⟨[],0,0,[]⟩:O_),(⟨[],[],false,[],[],false⟩:BindR),[],0,0,0,0,0,(⟨0,[],[],[],[],0,0⟩:Mail),[]⟩:DeedR),(⟨2,0,(⟨[],0,[]⟩:ShopR),(⟨[113],4,0,[]⟩:O_),(⟨[],[],false,[],[],false⟩:BindR),[],0,0,0,0,0,(⟨0,[],[],[],[],0,0⟩:Mail),[]⟩:DeedR),(⟨4,0,(⟨[],0,[]⟩:ShopR),(⟨[],0,0,[]⟩:O_),(⟨[97],[113],false,[],[],false⟩:BindR),[],0,0,0,0,0,(⟨0,[],[],[],[],0,0⟩:Mail),[]⟩:DeedR)]) (k:=v) (by omega);have hz_hc18:=ddB_ok (l:=[(⟨0,0,(⟨[97],1,[]⟩:ShopR),(⟨[],0,0,[]⟩:O_),(⟨[],[],false,[],[],false⟩:BindR),[],0,0,0,0,0,(⟨0,[],[],[],[],0,0⟩:Mail),[]⟩:DeedR),(⟨2,0,(⟨[],0,[]⟩:ShopR),(⟨[113],4,0,[]⟩:O_),(⟨[],[],false,[],[],false⟩:BindR),[],0,0,0,0,0,(⟨0,[],[],[],[],0,0⟩:Mail),[]⟩:DeedR),(⟨4,0,(⟨[],0,[]⟩:ShopR),(⟨[],0,0,[]⟩:O_),(⟨[97],[113],false,[],[],false⟩:BindR),[],0,0,0,0,0,(⟨0,[],[],[],[],0,0⟩:Mail),[]⟩:DeedR)]) (by decide +kernel) (gt [(⟨0,0,(⟨[97],1,[]⟩:ShopR),(⟨[],0,0,[]⟩:O_),(⟨[],[],false,[],[],false⟩:BindR),[],0,0,0,0,0,(⟨0,[],[],[],[],0,0⟩:Mail),[]⟩:DeedR),(⟨2,0,(⟨[],0,[]⟩:ShopR),(⟨[113],4,0,[]⟩:O_),(⟨[],[],false,[],[],false⟩:BindR),[],0,0,0,0,0,(⟨0,[],[],[],[],0,0⟩:Mail),[]⟩:DeedR),(⟨4,0,(⟨[],0,[]⟩:ShopR),(⟨[],0,0,[]⟩:O_),(⟨[97],[113],false,[],[],false⟩:BindR),[],0,0,0,0,0,(⟨0,[],[],[],[],0,0⟩:Mail),[]⟩:DeedR)] v) (List.mem_of_getElem? hc18);have hy_hc18:=hz_hc18.1;have hx_hc18:=hz_hc18.2;refine gx Gx_ 6 ?_;refine q1 (qidx Gx_ v rfl rfl rfl hc18 rfl rfl rfl rfl) rfl fun w19=>?_;refine gm Gx_ 9 [2] fun B21=>?_;refine cV e17 R22_ (D7_ _ _ (hd:=by first|assumption|exact dd1 (by decide +kernel)|exact⟨by first|(simp;done)|omega,by first|(simp;done)|omega,by first|(simp;done)|((try dsimp only);omega),by first|(simp;done)|((try dsimp only);omega)⟩)) rfl fun r1 hr22 e24 w23=>?_;have hA24:=Wb_ (s:=x) (d:=(gt [(⟨0,0,(⟨[97],1,[]⟩:ShopR),(⟨[],0,0,[]⟩:O_),(⟨[],[],false,[],[],false⟩:BindR),[],0,0,0,0,0,(⟨0,[],[],[],[],0,0⟩:Mail),[]⟩:DeedR),(⟨2,0,(⟨[],0,[]⟩:ShopR),(⟨[113],4,0,[]⟩:O_),(⟨[],[],false,[],[],false⟩:BindR),[],0,0,0,0,0,(⟨0,[],[],[],[],0,0⟩:Mail),[]⟩:DeedR),(⟨4,0,(⟨[],0,[]⟩:ShopR),(⟨[],0,0,[]⟩:O_),(⟨[97],[113],false,[],[],false⟩:BindR),[],0,0,0,0,0,(⟨0,[],[],[],[],0,0⟩:Mail),[]⟩:DeedR)] v)) (by assumption) (by first|assumption|exact dd1 (by decide +kernel)|exact⟨by first|(simp;done)|omega,by first|(simp;done)|omega,by first|(simp;done)|((try dsimp only);omega),by first|(simp;done)|((try dsimp only);omega)⟩) (by first|assumption|omega|(dsimp only;omega)|decide +kernel)
    (try rw[<- hr22] at hA24)
    refine gm Gx_ 18 [3,4] fun B27=>?_;refine cN e24 (fun p31 e32=>?_) (fun p34 e35=>?_)
    · refine gx Gx_ 12 ?_;exact rt1 rfl rfl (V_ (fun r:Bool=> .bool r) e32 (ple rfl))
    refine gmy Gx_ 12 [] fun _=>?_;refine next ⟨f1,(v+1),r1.1⟩ rfl rfl ⟨rfl,trivial⟩ ⟨rfl,trivial⟩ ?_ ?_
    · (try simp only[]);omega
    exact⟨by (try simp only[]);omega,e35,by assumption⟩
  refine gx Gx_ 10 ?_;refine cV e38 R22_ (D7_ _ (⟨6,0,(⟨[],0,[]⟩:ShopR),(⟨[],0,0,[]⟩:O_),(⟨[],[],false,[],[],false⟩:BindR),[],0,0,0,0,0,(⟨0,[97],[],[],[120],0,0⟩:Mail),[]⟩:DeedR) (hd:=by first|assumption|exact dd1 (by decide +kernel)|exact⟨by first|(simp;done)|omega,by first|(simp;done)|omega,by first|(simp;done)|((try dsimp only);omega),by first|(simp;done)|((try dsimp only);omega)⟩)) rfl fun r2 hr39 e41 w40=>?_;have hA41:=Wb_ (s:=x) (d:=(⟨6,0,(⟨[],0,[]⟩:ShopR),(⟨[],0,0,[]⟩:O_),(⟨[],[],false,[],[],false⟩:BindR),[],0,0,0,0,0,(⟨0,[97],[],[],[120],0,0⟩:Mail),[]⟩:DeedR)) (by assumption) (by first|assumption|exact dd1 (by decide +kernel)|exact⟨by first|(simp;done)|omega,by first|(simp;done)|omega,by first|(simp;done)|((try dsimp only);omega),by first|(simp;done)|((try dsimp only);omega)⟩) (by first|assumption|omega|(dsimp only;omega)|decide +kernel)
  (try rw[<- hr39] at hA41)
  refine gm Gx_ 14 [2] fun B44=>?_;refine cV e41 R22_ (D7_ _ (⟨7,0,(⟨[],0,[]⟩:ShopR),(⟨[],0,0,[]⟩:O_),(⟨[],[],false,[],[],false⟩:BindR),[113],0,0,0,0,0,(⟨0,[],[],[],[],0,0⟩:Mail),[]⟩:DeedR) (hd:=by first|assumption|exact dd1 (by decide +kernel)|exact⟨by first|(simp;done)|omega,by first|(simp;done)|omega,by first|(simp;done)|((try dsimp only);omega),by first|(simp;done)|((try dsimp only);omega)⟩)) rfl fun r3 hr45 e47 w46=>?_;have hA47:=Wb_ (s:=r2.1) (d:=(⟨7,0,(⟨[],0,[]⟩:ShopR),(⟨[],0,0,[]⟩:O_),(⟨[],[],false,[],[],false⟩:BindR),[113],0,0,0,0,0,(⟨0,[],[],[],[],0,0⟩:Mail),[]⟩:DeedR)) (by assumption) (by first|assumption|exact dd1 (by decide +kernel)|exact⟨by first|(simp;done)|omega,by first|(simp;done)|omega,by first|(simp;done)|((try dsimp only);omega),by first|(simp;done)|((try dsimp only);omega)⟩) (by first|assumption|omega|(dsimp only;omega)|decide +kernel)
  (try rw[<- hr45] at hA47)
  refine gm Gx_ 13 [3,4] fun B50=>?_;refine call Qw_ rfl rfl fun w52=>?_;refine gx Gx_ 1 ?_;refine callg rfl (fun hc=>Q7_) rfl trivial rfl rfl fun _=>?_;refine gy Gx_ 2 ?_;refine callg rfl (fun hc=>Xf_) rfl trivial rfl rfl fun _=>?_;refine gy Gx_ 2 ?_;refine callg rfl (fun hc=>Q3_) rfl trivial rfl rfl fun _=>?_;refine gy Gx_ 25 ?_;exact rt1 rfl rfl (V_ (fun r:Bool=> .bool r) e47 (ple rfl))
abbrev R33_:A2_->PV:=fun r=> .agg (A2_.pc r)
abbrev R34_:RiseR->PV:=fun r=> .agg (RiseR.pc r)
theorem ag43:Ag Tryz.prog 43 true:=fun w=>by kernel_rfl
theorem fl92_0:Fld Tryz.prog 92 0 0:=fun b o w=>by kernel_rfl
theorem fl94_1:Fld Tryz.prog 94 1 1:=fun b o w=>by kernel_rfl
theorem fl94_2:Fld Tryz.prog 94 2 3:=fun b o w=>by kernel_rfl
theorem sz43:Sz Tryz.prog 43 35:=fun w=>by kernel_rfl
abbrev ty26v131:TI:=⟨.agg [(0,1),(1,1),(2,1),(3,1),(4,1)],5,88,[.int .i64 0, .int .i64 0, .val (.slice none 0 0), .val (.slice none 0 0), .val (.slice none 0 0)]⟩
abbrev ty54v131:TI:=⟨.agg [(0,71),(71,5),(76,1)],77,984,[.sl ShopR.pc [], .sl BindR.pc [], .int .u64 0, .int .i64 0, .sl RowR.pc [], .int .u64 0, .sl Mail.pc [], .int .u64 0, .sl Mail.pc [], .int .u64 0, .sl Mail.pc [], .int .u64 0, .sl Mail.pc [], .int .u64 0, .sl Mail.pc [], .int .u64 0, .sl Mail.pc [], .int .u64 0, .sl Mail.pc [], .int .u64 0, .sl Mail.pc [], .int .u64 0, .sl Mail.pc [], .int .u64 0, .sl Mail.pc [], .int .u64 0, .sl Mail.pc [], .int .u64 0, .sl Mail.pc [], .int .u64 0, .sl Mail.pc [], .int .u64 0, .sl Mail.pc [], .int .u64 0, .sl Mail.pc [], .int .u64 0, .sl Mail.pc [], .int .u64 0, .sl NoteR.pc [], .int .u64 0, .int .u64 0, .int .u64 0, .int .u64 0, .int .u64 0, .int .u64 0, .int .u64 0, .int .u64 0, .int .u64 0, .int .u64 0, .int .u64 0, .int .u64 0, .int .u64 0, .int .u64 0, .int .u64 0, .int .u64 0, .int .u64 0, .int .i64 0, .int .u64 0, .int .i64 0, .int .u64 0, .int .i64 0, .int .u64 0, .int .i64 0, .int .u64 0, .int .i64 0, .int .u64 0, .int .i64 0, .int .u64 0, .int .i64 0, .int .u64 0, .int .i64 0, .int .i64 0, .int .i64 0, .val (.slice none 0 0), .val (.slice none 0 0), .val (.slice none 0 0), .int .i64 0]⟩
def tbv131:Tb:=[(3,ty3),(4,ty4),(5,ty5),(22,ty22),(23,ty23),(24,ty24),(26,ty26v131),(36,ty36),(54,ty54v131),(58,ty58),(65,ty65),(67,ty67),(77,ty77),(87,ty87),(94,ty94)]
theorem B4_:tbB Tryz.prog tbv131=true:=by kernel_rfl
theorem l23_StoreRenews_ok (budget:Int) (slots:Int) (rounds:Int):Fn Tryz.prog gb 4 [.int .u8 budget, .int .u8 slots, .int .u8 rounds] (.bool (Et_ budget slots rounds)):=by
  refine fC Tryz.func4 B4_ Tryz.ntmps4 fun w N H hG=>?_;have budget_r:0<=budget/\budget<=255:=w.1;have slots_r:0<=slots/\slots<=255:=w.2.1;have rounds_r:0<=rounds/\rounds<=255:=w.2.2.1;have e0:=Et_.eq_1 budget slots rounds;generalize Et_ budget slots rounds=z at e0 ⊢;refine gx B4_ 8 ?_;refine call Q9_ rfl rfl fun w1=>?_;refine gx B4_ 3 ?_;refine cE e0 (fun h2 e4=>?_) (fun h2 e6=>?_)
  · have h3:=Cz_ h2;refine gx B4_ 7 ?_;subst e4;exact qr1
  have h5:=Da_ h2;refine gx B4_ 4 ?_;refine hinl [] B4_ Tryz.func22 rfl Tryz.ntmps22 cb22 rfl rfl rfl rfl fun Hc7 hHc7=>?_;refine gm B4_ 8 [0] fun B9=>?_;refine ef (bsl 1 D_.pc [(⟨[108,111,119],(⟨0,0⟩:H_),500,1⟩:D_)] B4_ rfl rfl rfl rfl rfl (fun _=>rfl) rfl (by decide) (by decide) rfl fun u10=>?_);refine ef (bsl 2 i64c [0] B4_ rfl rfl rfl rfl rfl (fun _=>rfl) rfl (by decide) (by decide) rfl fun u11=>?_);refine gm B4_ 2 [] fun _=>?_;refine Tm_ (i:=0) (o:=2) 1 rfl rfl rfl ?_;refine Tm_ (i:=0) (o:=3) 2 rfl rfl rfl ?_;refine gx B4_ 3 ?_;refine inlr rfl rfl rfl trivial ?_;refine gm B4_ 2 [3] fun B14=>?_;refine Tm_ (i:=3) (o:=2) 1 rfl rfl rfl ?_;refine Tm_ (i:=3) (o:=3) 2 rfl rfl rfl ?_;refine gx B4_ 3 ?_;refine aN [1,4,5,6,7,8,9] 11 mixd ?_;refine gX B4_ [0,1,2,3] 7 ?_;refine vq 4 (eidx 0 B4_ rfl rfl rfl rfl rfl rfl rfl rfl (by first|omega|(simp;done))) rfl (by kernel_rfl) rfl fun w15=>?_;refine vq 5 (efld rfl fl94_2) rfl (by kernel_rfl) rfl fun w16=>?_;have hc17:=getG (xs:=[(⟨[108,111,119],(⟨0,0⟩:H_),500,1⟩:D_)]) (k:=0) (by first|omega|(simp;done));refine vE 6 rfl (est1 (i:=1) 0 3 (⟨(gt [(⟨[108,111,119],(⟨0,0⟩:H_),500,1⟩:D_)] 0).name,(gt [(⟨[108,111,119],(⟨0,0⟩:H_),500,1⟩:D_)] 0).label,60000,(gt [(⟨[108,111,119],(⟨0,0⟩:H_),500,1⟩:D_)] 0).base⟩:D_) B4_ rfl rfl rfl rfl rfl rfl (by first|omega|(simp;done)) rfl (by decide) (fun _ h=>by obtain rfl :=Option.some.inj (h.symm.trans hc17);rfl) ?_);have hset17:([(⟨[108,111,119],(⟨0,0⟩:H_),500,1⟩:D_)].set 0 (⟨(gt [(⟨[108,111,119],(⟨0,0⟩:H_),500,1⟩:D_)] 0).name,(gt [(⟨[108,111,119],(⟨0,0⟩:H_),500,1⟩:D_)] 0).label,60000,(gt [(⟨[108,111,119],(⟨0,0⟩:H_),500,1⟩:D_)] 0).base⟩:D_)).length=[(⟨[108,111,119],(⟨0,0⟩:H_),500,1⟩:D_)].length:=List.length_set ..;refine vq 7 (eidx 0 B4_ rfl rfl rfl rfl rfl rfl rfl rfl (by first|omega|(simp;done))) rfl (by kernel_rfl) rfl fun w19=>?_;refine vq 8 (efld rfl fl94_1) rfl (by kernel_rfl) rfl fun w20=>?_;refine vq 9 (efld rfl fl92_0) rfl (by kernel_rfl) rfl fun w21=>?_;have hc22:=getG (xs:=([(⟨[108,111,119],(⟨0,0⟩:H_),500,1⟩:D_)].set 0 (⟨(gt [(⟨[108,111,119],(⟨0,0⟩:H_),500,1⟩:D_)] 0).name,(gt [(⟨[108,111,119],(⟨0,0⟩:H_),500,1⟩:D_)] 0).label,60000,(gt [(⟨[108,111,119],(⟨0,0⟩:H_),500,1⟩:D_)] 0).base⟩:D_))) (k:=0) (by first|omega|(simp;done));refine vtp 10 rfl (by kernel_rfl) (by kernel_rfl) (est1 (i:=1) 0 1 (⟨(gt ([(⟨[108,111,119],(⟨0,0⟩:H_),500,1⟩:D_)].set 0 (⟨(gt [(⟨[108,111,119],(⟨0,0⟩:H_),500,1⟩:D_)] 0).name,(gt [(⟨[108,111,119],(⟨0,0⟩:H_),500,1⟩:D_)] 0).label,60000,(gt [(⟨[108,111,119],(⟨0,0⟩:H_),500,1⟩:D_)] 0).base⟩:D_)) 0).name,(⟨1,(gt ([(⟨[108,111,119],(⟨0,0⟩:H_),500,1⟩:D_)].set 0 (⟨(gt [(⟨[108,111,119],(⟨0,0⟩:H_),500,1⟩:D_)] 0).name,(gt [(⟨[108,111,119],(⟨0,0⟩:H_),500,1⟩:D_)] 0).label,60000,(gt [(⟨[108,111,119],(⟨0,0⟩:H_),500,1⟩:D_)] 0).base⟩:D_)) 0).label.set_⟩:H_),(gt ([(⟨[108,111,119],(⟨0,0⟩:H_),500,1⟩:D_)].set 0 (⟨(gt [(⟨[108,111,119],(⟨0,0⟩:H_),500,1⟩:D_)] 0).name,(gt [(⟨[108,111,119],(⟨0,0⟩:H_),500,1⟩:D_)] 0).label,60000,(gt [(⟨[108,111,119],(⟨0,0⟩:H_),500,1⟩:D_)] 0).base⟩:D_)) 0).bytes,(gt ([(⟨[108,111,119],(⟨0,0⟩:H_),500,1⟩:D_)].set 0 (⟨(gt [(⟨[108,111,119],(⟨0,0⟩:H_),500,1⟩:D_)] 0).name,(gt [(⟨[108,111,119],(⟨0,0⟩:H_),500,1⟩:D_)] 0).label,60000,(gt [(⟨[108,111,119],(⟨0,0⟩:H_),500,1⟩:D_)] 0).base⟩:D_)) 0).base⟩:D_) B4_ rfl rfl rfl rfl rfl rfl (by first|omega|(simp;done)) rfl (by decide) (fun _ h=>by obtain rfl :=Option.some.inj (h.symm.trans hc22);rfl) ?_);have hset22:(([(⟨[108,111,119],(⟨0,0⟩:H_),500,1⟩:D_)].set 0 (⟨(gt [(⟨[108,111,119],(⟨0,0⟩:H_),500,1⟩:D_)] 0).name,(gt [(⟨[108,111,119],(⟨0,0⟩:H_),500,1⟩:D_)] 0).label,60000,(gt [(⟨[108,111,119],(⟨0,0⟩:H_),500,1⟩:D_)] 0).base⟩:D_)).set 0 (⟨(gt ([(⟨[108,111,119],(⟨0,0⟩:H_),500,1⟩:D_)].set 0 (⟨(gt [(⟨[108,111,119],(⟨0,0⟩:H_),500,1⟩:D_)] 0).name,(gt [(⟨[108,111,119],(⟨0,0⟩:H_),500,1⟩:D_)] 0).label,60000,(gt [(⟨[108,111,119],(⟨0,0⟩:H_),500,1⟩:D_)] 0).base⟩:D_)) 0).name,(⟨1,(gt ([(⟨[108,111,119],(⟨0,0⟩:H_),500,1⟩:D_)].set 0 (⟨(gt [(⟨[108,111,119],(⟨0,0⟩:H_),500,1⟩:D_)] 0).name,(gt [(⟨[108,111,119],(⟨0,0⟩:H_),500,1⟩:D_)] 0).label,60000,(gt [(⟨[108,111,119],(⟨0,0⟩:H_),500,1⟩:D_)] 0).base⟩:D_)) 0).label.set_⟩:H_),(gt ([(⟨[108,111,119],(⟨0,0⟩:H_),500,1⟩:D_)].set 0 (⟨(gt [(⟨[108,111,119],(⟨0,0⟩:H_),500,1⟩:D_)] 0).name,(gt [(⟨[108,111,119],(⟨0,0⟩:H_),500,1⟩:D_)] 0).label,60000,(gt [(⟨[108,111,119],(⟨0,0⟩:H_),500,1⟩:D_)] 0).base⟩:D_)) 0).bytes,(gt ([(⟨[108,111,119],(⟨0,0⟩:H_),500,1⟩:D_)].set 0 (⟨(gt [(⟨[108,111,119],(⟨0,0⟩:H_),500,1⟩:D_)] 0).name,(gt [(⟨[108,111,119],(⟨0,0⟩:H_),500,1⟩:D_)] 0).label,60000,(gt [(⟨[108,111,119],(⟨0,0⟩:H_),500,1⟩:D_)] 0).base⟩:D_)) 0).base⟩:D_)).length=([(⟨[108,111,119],(⟨0,0⟩:H_),500,1⟩:D_)].set 0 (⟨(gt [(⟨[108,111,119],(⟨0,0⟩:H_),500,1⟩:D_)] 0).name,(gt [(⟨[108,111,119],(⟨0,0⟩:H_),500,1⟩:D_)] 0).label,60000,(gt [(⟨[108,111,119],(⟨0,0⟩:H_),500,1⟩:D_)] 0).base⟩:D_)).length:=List.length_set ..;refine vD ?_;refine gx B4_ 6 ?_;refine ef (bsl 4 D_.pc [(⟨[117,110,100,101,114],(⟨0,0⟩:H_),100,1⟩:D_)] B4_ rfl rfl rfl rfl rfl (fun _=>rfl) rfl (by decide) (by decide) rfl fun u24=>?_);refine ef (app B4_ [(⟨[117,110,100,101,114],(⟨0,0⟩:H_),100,1⟩:D_)] rfl rfl rfl rfl rfl rfl rfl rfl rfl (src_o rfl rfl) (by first|omega|(simp;done)|(simp;omega)) rfl fun u25=>?_);refine gx B4_ 1 ?_;refine ef (F8_ B4_ rfl rfl rfl rfl rfl rfl rfl rfl rfl ?_);refine gx B4_ 6 ?_;refine ef (bsl 5 i64c [1] B4_ rfl rfl rfl rfl rfl (fun _=>rfl) rfl (by decide) (by decide) rfl fun u26=>?_);refine ef (app B4_ [1] rfl rfl rfl rfl rfl rfl rfl rfl rfl (src_o rfl rfl) (by first|omega|(simp;done)|(simp;omega)) rfl fun u27=>?_);refine gx B4_ 1 ?_;refine ef (F8_ B4_ rfl rfl rfl rfl rfl rfl rfl rfl rfl ?_);refine gy B4_ 11 ?_;refine Md_ (i:=3) (o:=4) (k:=3) (e:=87) 6 Ah_.pc rfl (by decide) rfl rfl ?_;refine loop (ι:=Nat×Nat×Int×Int×(List D_)×(List Int)×(List Ah_)×Value×Value×Value) [0,2,6,7,41] [0,4,5] (fun ⟨f,v,work,give_,places,slots1,grants,u_places,u_slots1,u_grants⟩=>[(42, .int .u8 (v:Int))]) (fun ⟨f,v,work,give_,places,slots1,grants,u_places,u_slots1,u_grants⟩=>[(3, .box (B14 0) 26 [.int .i64 work, .int .i64 give_, .osl 1, .osl 2, .osl 6]),(1, .arr u_places 5 94 D_.pc places),(2, .arr u_slots1 1 3 i64c slots1),(6, .arr u_grants 3 87 Ah_.pc grants)]) (fun ⟨f,v,work,give_,places,slots1,grants,u_places,u_slots1,u_grants⟩=>((slots%5)-(v:Int)).toNat<f/\z=C0_ budget slots rounds f v work give_ places slots1 grants/\plB places=true/\slots1.length=v+2/\v<=4) (fun ⟨f,v,work,give_,places,slots1,grants,u_places,u_slots1,u_grants⟩=>f) ⟨(((slots%5)-(0:Int)).toNat+1),0,4,1,((([(⟨[108,111,119],(⟨0,0⟩:H_),500,1⟩:D_)].set 0 (⟨(gt [(⟨[108,111,119],(⟨0,0⟩:H_),500,1⟩:D_)] 0).name,(gt [(⟨[108,111,119],(⟨0,0⟩:H_),500,1⟩:D_)] 0).label,60000,(gt [(⟨[108,111,119],(⟨0,0⟩:H_),500,1⟩:D_)] 0).base⟩:D_)).set 0 (⟨(gt ([(⟨[108,111,119],(⟨0,0⟩:H_),500,1⟩:D_)].set 0 (⟨(gt [(⟨[108,111,119],(⟨0,0⟩:H_),500,1⟩:D_)] 0).name,(gt [(⟨[108,111,119],(⟨0,0⟩:H_),500,1⟩:D_)] 0).label,60000,(gt [(⟨[108,111,119],(⟨0,0⟩:H_),500,1⟩:D_)] 0).base⟩:D_)) 0).name,(⟨1,(gt ([(⟨[108,111,119],(⟨0,0⟩:H_),500,1⟩:D_)].set 0 (⟨(gt [(⟨[108,111,119],(⟨0,0⟩:H_),500,1⟩:D_)] 0).name,(gt [(⟨[108,111,119],(⟨0,0⟩:H_),500,1⟩:D_)] 0).label,60000,(gt [(⟨[108,111,119],(⟨0,0⟩:H_),500,1⟩:D_)] 0).base⟩:D_)) 0).label.set_⟩:H_),(gt ([(⟨[108,111,119],(⟨0,0⟩:H_),500,1⟩:D_)].set 0 (⟨(gt [(⟨[108,111,119],(⟨0,0⟩:H_),500,1⟩:D_)] 0).name,(gt [(⟨[108,111,119],(⟨0,0⟩:H_),500,1⟩:D_)] 0).label,60000,(gt [(⟨[108,111,119],(⟨0,0⟩:H_),500,1⟩:D_)] 0).base⟩:D_)) 0).bytes,(gt ([(⟨[108,111,119],(⟨0,0⟩:H_),500,1⟩:D_)].set 0 (⟨(gt [(⟨[108,111,119],(⟨0,0⟩:H_),500,1⟩:D_)] 0).name,(gt [(⟨[108,111,119],(⟨0,0⟩:H_),500,1⟩:D_)] 0).label,60000,(gt [(⟨[108,111,119],(⟨0,0⟩:H_),500,1⟩:D_)] 0).base⟩:D_)) 0).base⟩:D_))++[(⟨[117,110,100,101,114],(⟨0,0⟩:H_),100,1⟩:D_)]),([0]++[1]),[],(u25),(u27),(.slice none 0 0)⟩ ⟨rfl,trivial⟩ ⟨rfl,rfl,rfl,rfl,trivial⟩ ?_ ?_
  · exact⟨Nat.lt_succ_self _,e6,⟨by decide +kernel,by decide,by decide⟩⟩
  rintro⟨f,v,work,give_,places,slots1,grants,u_places,u_slots1,u_grants⟩ ⟨hp28_1,hp28_2,hp28_3⟩;obtain⟨hi1,hi2,hi3⟩:=hp28_3;obtain⟨f1,rfl⟩:∃ q,f=q+1:=⟨f-1,by omega⟩;have e_f1:=hp28_2.trans (C0_.eq_2 _ _ _ _ _ _ _ _ _ _);refine gx B4_ 6 ?_;refine cD e_f1 (fun p30 e31=>?_) (fun p34 e35=>?_)
  · refine gx B4_ 7 ?_;refine ef (bsl 7 i64c [0] B4_ rfl rfl rfl rfl rfl (fun _=>rfl) rfl (by decide) (by decide) rfl fun u32=>?_);refine ef (app B4_ [0] rfl rfl rfl rfl rfl rfl rfl rfl rfl (src_o rfl rfl) (by first|omega|(simp;done)|(simp;omega)) rfl fun u33=>?_);refine gx B4_ 1 ?_;refine ef (F8_ B4_ rfl rfl rfl rfl rfl rfl rfl rfl rfl ?_);have :=Y5_ ((v:Int)+1);refine gx B4_ 7 ?_;refine next ⟨f1,(((IntKind.wrap .u8 ((v:Int)+1))).toNat),work,give_,places,(slots1++[0]),grants,(u_places),(u33),(u_grants)⟩ rfl rfl ⟨rfl,trivial⟩ ⟨rfl,rfl,rfl,rfl,trivial⟩ ?_ ?_
    · (try simp only[]);omega
    exact⟨(by (try simp only[]);simp only[IntKind.wrap_u8];omega),e31,⟨by assumption,(by simp only[List.length_append,List.length_cons,List.length_nil,IntKind.wrap_u8];omega),(by first|omega|(simp only[IntKind.wrap_u8];omega))⟩⟩
  refine gy B4_ 11 ?_;refine ef (bsl 7 Ah_.pc [(⟨0,1,(budget%17)⟩:Ah_)] B4_ rfl rfl rfl rfl rfl (fun _=>rfl) rfl (by decide) (by decide) rfl fun u36=>?_);refine gx B4_ 1 ?_;refine ef (F8_ B4_ rfl rfl rfl rfl rfl rfl rfl rfl rfl ?_);refine gx B4_ 4 ?_;refine give 1 rfl ?_;refine give 2 rfl ?_;refine give 7 rfl ?_;refine gx B4_ 1 ?_;refine cV e35 R21_ (Lt_ (⟨work,give_,places,slots1,[(⟨0,1,(budget%17)⟩:Ah_)]⟩:E_) _ (hp:=by exact Yi_ (by assumption) (by omega) (by omega)) (hk:=by have :=Yd_ (by assumption);dsimp only;omega)) rfl fun r hr37 e39 w38=>?_;have hA39:=new_ok (p:=(⟨work,give_,places,slots1,[(⟨0,1,(budget%17)⟩:Ah_)]⟩:E_)) (k:=0) (by exact Yi_ (by assumption) (by omega) (by omega)) (by have :=Yd_ (by assumption);dsimp only;omega)
  (try rw[<- hr37] at hA39)
  refine gm B4_ 9 [1] fun B42=>?_;refine cV e39 R22_ (D7_ _ (⟨0,0,(⟨[114],4,[117,110,100,101,114]⟩:ShopR),(⟨[],0,0,[]⟩:O_),(⟨[],[],false,[],[],false⟩:BindR),[],0,0,0,0,0,(⟨0,[],[],[],[],0,0⟩:Mail),[]⟩:DeedR) (hd:=by first|assumption|exact dd1 (by decide +kernel)|exact⟨by first|(simp;done)|omega,by first|(simp;done)|omega,by first|(simp;done)|((try dsimp only);omega),by first|(simp;done)|((try dsimp only);omega)⟩)) rfl fun r1 hr43 e45 w44=>?_;have hA45:=Wb_ (s:=r) (d:=(⟨0,0,(⟨[114],4,[117,110,100,101,114]⟩:ShopR),(⟨[],0,0,[]⟩:O_),(⟨[],[],false,[],[],false⟩:BindR),[],0,0,0,0,0,(⟨0,[],[],[],[],0,0⟩:Mail),[]⟩:DeedR)) (by assumption) (by first|assumption|exact dd1 (by decide +kernel)|exact⟨by first|(simp;done)|omega,by first|(simp;done)|omega,by first|(simp;done)|((try dsimp only);omega),by first|(simp;done)|((try dsimp only);omega)⟩) (by first|assumption|omega|(dsimp only;omega)|decide +kernel)
  (try rw[<- hr43] at hA45)
  refine gm B4_ 17 [2] fun B48=>?_;refine cN e45 (fun p51 e52=>?_) (fun p54 e55=>?_)
  · refine gx B4_ 7 ?_;subst e52;exact qr1
  refine gy B4_ 12 ?_;refine loop (ι:=Nat×Nat×B_) [0,7,8,70] [0,2,3,4,5,6] (fun ⟨f2,v1,x⟩=>[(71, .int .u64 (v1:Int))]) (fun ⟨f2,v1,x⟩=>[(1, .box (B42 0) 54 (B_.pc x))]) (fun ⟨f2,v1,x⟩=>((rounds%7)-(v1:Int)).toNat<f2/\z=Ca_ budget rounds slots1 r f2 v1 x/\StOk x/\v1<=7) (fun ⟨f2,v1,x⟩=>f2) ⟨(((rounds%7)-(0:Int)).toNat+1),0,r1.1⟩ ⟨rfl,trivial⟩ ⟨rfl,trivial⟩ ?_ ?_
  · exact⟨Nat.lt_succ_self _,e55,⟨by assumption,by omega⟩⟩
  rintro⟨f2,v1,x⟩ ⟨hp56_1,hp56_2,hp56_3⟩;obtain⟨hj1,hj2⟩:=hp56_3;obtain⟨f3,rfl⟩:∃ q,f2=q+1:=⟨f2-1,by omega⟩;have e_f3:=hp56_2.trans (Ca_.eq_2 _ _ _ _ _ _ _);refine gx B4_ 6 ?_;refine cD e_f3 (fun p58 e59=>?_) (fun p103 e104=>?_)
  · refine gx B4_ 3 ?_;obtain⟨o,e_o,q_o⟩:=Rf_ e59;refine H1_ (ι:=B_) [0,7,8,70,71] [0,2,3,4,5,6] (fun x1=>[]) (fun x1=>[(1, .box (B42 0) 54 (B_.pc x1))]) (fun x1=>o = .fin x1/\StOk x1) ?_ ?_
    · refine gx B4_ 14 ?_;refine loop (ι:=Nat×Nat×B_) [0,7,8,11,70,71] [0,2,3,4,5,6] (fun ⟨f4,v2,x2⟩=>[(74, .int .i64 (v2:Int))]) (fun ⟨f4,v2,x2⟩=>[(1, .box (B42 0) 54 (B_.pc x2))]) (fun ⟨f4,v2,x2⟩=>18-v2<f4/\o=C1_ budget slots1 v1 f4 v2 x2/\StOk x2/\v2<=18) (fun ⟨f4,v2,x2⟩=>f4) ⟨(18-0+1),0,x⟩ ⟨rfl,trivial⟩ ⟨rfl,trivial⟩ ?_ ?_
      · exact⟨Nat.lt_succ_self _,e_o,⟨by assumption,by omega⟩⟩
      rintro⟨f4,v2,x2⟩ ⟨hp60_1,hp60_2,hp60_3⟩;obtain⟨hk1,hk2⟩:=hp60_3;obtain⟨f5,rfl⟩:∃ q,f4=q+1:=⟨f4-1,by omega⟩;have e_f5:=hp60_2.trans (C1_.eq_2 _ _ _ _ _ _);refine gx B4_ 6 ?_;refine cD e_f5 (fun p62 e63=>?_) (fun p81 e82=>?_)
      · refine gx B4_ 11 ?_;refine aN [7,8,9,10,11,12] 14 mixd ?_;refine gXy B4_ [0,1,2,3,6,7,8,9,10,11] 4 ?_;refine vE 4 rfl (eqy (qconv B4_ rfl rfl rfl rfl (Ok_ (by omega))) rfl fun w64=>?_);have :=Fw_ ((v1:Int)*(slots1.length:Int));have :=Fw_ ((IntKind.wrap .u64 ((v1:Int)*(slots1.length:Int)))+(IntKind.wrap .u64 ((v2:Int)%(slots1.length:Int))));refine gX B4_ [5,12,13] 0 ?_;refine vD ?_;refine gx B4_ 7 ?_;refine cV e63 R22_ (D7_ _ (⟨6,(IntKind.wrap .u64 ((IntKind.wrap .u64 ((v1:Int)*(slots1.length:Int)))+(IntKind.wrap .u64 ((v2:Int)%(slots1.length:Int))))),(⟨[],0,[]⟩:ShopR),(⟨[],0,0,[]⟩:O_),(⟨[],[],false,[],[],false⟩:BindR),[],0,0,0,0,0,(⟨0,[114],[],[],[],0,0⟩:Mail),[]⟩:DeedR) (hd:=by first|assumption|exact dd1 (by decide +kernel)|exact⟨by first|(simp;done)|omega,by first|(simp;done)|omega,by first|(simp;done)|((try dsimp only);omega),by first|(simp;done)|((try dsimp only);omega)⟩)) rfl fun r2 hr65 e67 w66=>?_;have hA67:=Wb_ (s:=x2) (d:=(⟨6,(IntKind.wrap .u64 ((IntKind.wrap .u64 ((v1:Int)*(slots1.length:Int)))+(IntKind.wrap .u64 ((v2:Int)%(slots1.length:Int))))),(⟨[],0,[]⟩:ShopR),(⟨[],0,0,[]⟩:O_),(⟨[],[],false,[],[],false⟩:BindR),[],0,0,0,0,0,(⟨0,[114],[],[],[],0,0⟩:Mail),[]⟩:DeedR)) (by assumption) (by first|assumption|exact dd1 (by decide +kernel)|exact⟨by first|(simp;done)|omega,by first|(simp;done)|omega,by first|(simp;done)|((try dsimp only);omega),by first|(simp;done)|((try dsimp only);omega)⟩) (by first|assumption|omega|(dsimp only;omega)|decide +kernel)
        (try rw[<- hr65] at hA67)
        refine gmy B4_ 32 [7,8] fun B70=>?_;refine cE e67 (fun h72 e73=>?_) (fun h72 e79=>?_)
        · refine gx B4_ 18 ?_;have e74:=S6_ q_o e73;subst e74;exact qr1
        have h75:=orl h72;have h76:=Da_ h75;have p77:=beqT h76;have h78:=orr h72;refine gmy B4_ 12 [] fun _=>?_;refine next ⟨f5,(v2+1),r2.1⟩ rfl rfl ⟨rfl,trivial⟩ ⟨rfl,trivial⟩ ?_ ?_
        · (try simp only[]);omega
        exact⟨by (try simp only[]);omega,e79,⟨by assumption,by omega⟩⟩
      refine gx B4_ 8 ?_;refine cV e82 R33_ (Js_ _) rfl fun r3 hr83 e85 w84=>?_;refine q1 (qfA rfl Tryz.underlying52 rfl ag43 sz43 rfl) rfl fun w86=>?_;refine cV e85 R34_ (J8_ _ _) rfl fun r4 hr87 e89 w88=>?_;refine cV e89 R10_ (Ky_ _) rfl fun r5 hr90 e92 w91=>?_;have :=Fw_ ((v1:Int)+1);have :=Fw_ ((IntKind.wrap .u64 ((v1:Int)+1))*(budget%17));refine gy B4_ 9 ?_;refine cN e92 (fun p95 e96=>?_) (fun p99 e100=>?_)
      · refine gx B4_ 12 ?_;have e97:=S6_ q_o e96;subst e97;exact qr1
      refine gx B4_ 2 ?_;refine nX x2 ?_ trivial ⟨rfl,trivial⟩;exact⟨e100,by assumption⟩
    rintro x1 ⟨hp101,hp101_3⟩;have e102:=Xp_ q_o hp101;have :=Fw_ ((v1:Int)+1);refine gx B4_ 5 ?_;refine next ⟨f3,(((IntKind.wrap .u64 ((v1:Int)+1))).toNat),x1⟩ rfl rfl ⟨rfl,trivial⟩ ⟨rfl,trivial⟩ ?_ ?_
    · (try simp only[]);omega
    exact⟨(by (try simp only[]);simp only[IntKind.wrap_u64];omega),e102,⟨by assumption,(by first|omega|(simp only[IntKind.wrap_u64];omega))⟩⟩
  refine gx B4_ 11 ?_;subst e104;exact qr1
end Go.SW.V
namespace Go.SW
def errD:DataW Unit->Bs
  | .iface _ (.ptr (.agg [.lit (.string b)]))=>b
  |_=>[]
def layE (pt low:Nat):Nat->List (Nat×DataW Unit)->Array Obj->Array Obj
  |_,[],h=>h
  | k,x::l,h=>layE pt low (k+1) l (h.modify x.1 fun
    | .cells _ t frozen=> .cells #[.iface pt (.pointer (some ⟨low+k,0,none⟩))] t frozen
    |o=>o)
noncomputable def laidWE (P:Program) (os:Os) (pt st:Nat) (l e:List (Nat×DataW Unit)):World:=
  let low:=(World.holding P os ⟨#[],#[],[]⟩).heap.size
  let w0:=World.holding P os ⟨(e.map fun x=>Obj.cells #[.string ⟨(errD x.2).toArray⟩] st).toArray,#[],[]⟩
  {w0 with heap:=layE pt low 0 e (List.foldl (fun h x=>h.modify x.1 (layD x.2)) w0.heap l)}
end Go.SW
namespace Go.SW.V
open Go.SW
def renPl:List D_:=[⟨[108,111,119],⟨1,0⟩,60000,1⟩,⟨[117,110,100,101,114],⟨0,0⟩,100,1⟩]
def renP (sl:List Int) (b:Int):E_:=⟨4,1,renPl,sl,[⟨0,1,b⟩]⟩
def renB:BookR:=⟨[⟨[114],4,[117,110,100,101,114]⟩],[]⟩
def renR (ri:RiseR):A16_RiseR:=⟨⟨0,[]⟩,ri,⟨0,[]⟩,⟨0,[]⟩,⟨0,[]⟩,⟨0,[]⟩,⟨0,[]⟩,⟨0,[]⟩,⟨0,[]⟩,⟨0,[]⟩,⟨0,[]⟩,⟨0,[]⟩,⟨0,[]⟩,⟨0,[]⟩,⟨0,[]⟩,⟨0,[]⟩⟩
def renK (ri:RiseR):I_:=⟨1,60000,[],renR ri⟩
def renS (sl:List Int) (b:Int) (ri:RiseR) (sp:Bv_) (nt:C5_):B_:=⟨⟨renB,renK ri,nt,⟨0,0,0,0,0,0,0,0,0,0,0,0,0,0,0,0⟩,⟨sp,⟨0,0⟩,⟨0,0⟩,⟨0,0⟩,⟨0,0⟩,⟨0,0⟩,⟨0,0⟩,⟨0,0⟩⟩⟩,renP sl b,0⟩
def renD (tick:Int):DeedR:=⟨6,tick,(⟨[],0,[]⟩:ShopR),(⟨[],0,0,[]⟩:O_),(⟨[],[],false,[],[],false⟩:BindR),[],0,0,0,0,0,(⟨0,[114],[],[],[],0,0⟩:Mail),[]⟩
def renM:Mail:=⟨0,[114],[],[],[],0,0⟩
def zres:Ab_:=⟨⟨⟨0,[],[],[],[],0,0⟩,false,false⟩,0,0⟩
theorem Rp_:Fn_ renM=0:=by kernel_rfl
theorem ren_told (t:Int):Eo_ (renD t)=renD t:=rfl
theorem Yj_ (t:Int):D4_ (renD t)=0:=by
  unfold D4_
  rw[ren_told]
  simp only[ne_eq,not_true_eq_false,if_false]
  exact Rp_
theorem ren_make (sl:List Int) (b:Int):A0_ (Cy_ (renP sl b) 0) (⟨0,0,(⟨[114],4,[117,110,100,101,114]⟩:ShopR),(⟨[],0,0,[]⟩:O_),(⟨[],[],false,[],[],false⟩:BindR),[],0,0,0,0,0,(⟨0,[],[],[],[],0,0⟩:Mail),[]⟩:DeedR)=(renS sl b ⟨0,[]⟩ ⟨0,0⟩ ⟨0,[]⟩,zres,0):=by kernel_rfl
theorem ren_size (ri:RiseR):Aw_ (renK ri)=Az_ ri:=by
  have :Aw_ (renK ri)=0+0+Az_ ri+0+0+0+0+0+0+0+0+0+0+0+0+0+0:=rfl
  rw[this];omega
def ren1 (ri:RiseR):RiseR:=(Aj_ ri renM).1
theorem Yl_ {ri:RiseR} (ht:0<=ri.total/\ri.total<100000):Aj_ ri renM=(ren1 ri,0)/\(ren1 ri).total=ri.total+1:=by
  have hw:IntKind.wrap .u64 (ri.total+1)=ri.total+1:=by rw[IntKind.wrap_u64];omega
  have h:Aj_ ri renM=(⟨IntKind.wrap .u64 (ri.total+1),([ri.kept,[renM]].flatten).drop (max 0 ((([ri.kept,[renM]].flatten).length:Int)-16)).toNat⟩,0):=by
    unfold Aj_
    rw[Rp_]
    have e:decide (ri.total=18446744073709551615)=false:=decide_eq_false (by omega)
    rw[e];rfl
  unfold ren1
  rw[h]
  exact⟨rfl,hw⟩
theorem Ym_ {ri:RiseR} (ht:0<=ri.total/\ri.total<100000) (hk:RiOk ri):Ap_ (renK ri) 1 renM=(renK (ren1 ri),0):=by
  have h1:=(Yl_ ht).1
  have h2:RiOk (ren1 ri):=Nm_ hk
  have h3:=Nn_ (ren1 ri)
  have h4:=h2.1
  unfold Ap_ lt
  rw[show A16.get (renK ri).rises (Int.toNat 1)=ri from rfl,h1]
  dsimp only
  rw[ren_size]
  have e:decide ((renK ri).bytes<Az_ ri-Az_ ri+Az_ (ren1 ri))=false:=decide_eq_false (by
    show ¬(60000:Int)<_
    omega)
  rw[e];rfl
def renC (sp:Bv_) (r:Int):Int:=if sp.round=r then sp.count else 0
theorem Yn_ {sl:List Int} {b tick:Int} {ri:RiseR} {sp:Bv_} {nt:C5_}:Be_ (renS sl b ri sp nt) 1 tick = bif decide (b<=renC sp (tick/sl.length)) then (renS sl b ri sp nt,19) else (renS sl b ri ⟨tick/sl.length,renC sp (tick/sl.length)+1⟩ (Bo_ nt ⟨tick,2,[117,110,100,101,114]⟩).1,0):=by
  unfold Be_ lt
  dsimp only
  rw[show S_ (renS sl b ri sp nt).policy (renS sl b ri sp nt).place 1=0 by kernel_rfl]
  rw[show Ik_ (renS sl b ri sp nt).policy tick=tick/sl.length from rfl]
  rw[show decide ((0:Int)<0)=false from rfl]
  rw[show A8.get (renS sl b ri sp nt).x.spent (Int.toNat 0)=sp from rfl]
  rw[cond_false]
  rw [show (bif !decide (sp.round=tick/(sl.length:Int)) then (⟨tick/sl.length,0⟩:Bv_) else sp)=⟨tick/sl.length,renC sp (tick/sl.length)⟩ by
    by_cases h:sp.round=tick/(sl.length:Int)
    · rw[decide_eq_true h]
      simp only[renC,if_pos h,Bool.not_true,cond_false]
      rw[<- h]
    · rw[decide_eq_false h]
      simp only[renC,if_neg h,Bool.not_false,cond_true]]
  rfl
def renN (nt:C5_) (tick:Int):C5_:=(Bo_ nt ⟨tick,2,[117,110,100,101,114]⟩).1
theorem ren_send {sl:List Int} {b tick:Int} {ri:RiseR} {sp:Bv_} {nt:C5_} (ht:0<=ri.total/\ri.total<100000) (hk:RiOk ri):J_ (renS sl b ri sp nt) renM tick = bif decide (b<=renC sp (tick/sl.length)) then (renS sl b ri sp nt,[],0,19) else (renS sl b (ren1 ri) ⟨tick/sl.length,renC sp (tick/sl.length)+1⟩ (renN nt tick),[],1,0):=by
  unfold J_ lt
  rw[show An_ (renS sl b ri sp nt).x.book renM.shop renM.key renM.head=([],[[117,110,100,101,114]],0) from rfl]
  show Ag_ _ renM tick ([],[[117,110,100,101,114]],0) [] [[117,110,100,101,114]] 0 _=_
  unfold Ag_ lt
  rw[show Aq_ (renS sl b ri sp nt).policy [117,110,100,101,114]=1 by kernel_rfl]
  dsimp only
  rw[show decide ((((D1_ (renS sl b ri sp nt).x.book.shops renM.shop).getD ShopR.zero).sort)=4)=true by kernel_rfl]
  rw[cond_true,Yn_]
  cases decide (b<=renC sp (tick/sl.length)) with
  |true=>rfl
  |false=>
    rw[cond_false,cond_false]
    rw[show (!decide ((0:Int)=0))=false from rfl,cond_false]
    have hr:∀ sp' nt',Ap_ (renS sl b ri sp' nt').x.stock 1 ⟨0,renM.shop,renM.key,renM.head,renM.body,renM.due,renM.hops⟩=(renK (ren1 ri),0):=fun _ _=>Ym_ ht hk
    dsimp only[lp1]
    rw[hr]
    rfl
theorem ren_do {sl:List Int} {b tick:Int} {ri:RiseR} {sp:Bv_} {nt:C5_} (ht:0<=ri.total/\ri.total<100000) (hk:RiOk ri):A0_ (renS sl b ri sp nt) (renD tick) = bif decide (b<=renC sp (tick/sl.length)) then (renS sl b ri sp nt,zres,19) else (renS sl b (ren1 ri) ⟨tick/sl.length,renC sp (tick/sl.length)+1⟩ (renN nt tick),⟨zres.item,1,0⟩,0):=by
  unfold A0_ lt lt1
  rw[Yj_]
  have hp:Bz_ (renS sl b ri sp nt) (renD tick) = bif decide (b<=renC sp (tick/sl.length)) then (renS sl b ri sp nt,zres,19) else (renS sl b (ren1 ri) ⟨tick/sl.length,renC sp (tick/sl.length)+1⟩ (renN nt tick),⟨zres.item,1,0⟩,0):=by
    unfold Bz_ lt
    rw[show K_ (renD tick).mail=renM from rfl,show (renD tick).tick=tick from rfl]
    dsimp only
    rw[ren_send ht hk]
    cases decide (b<=renC sp (tick/sl.length)) with
    |true=>rfl
    |false=>rfl
  rw[show (renD tick).kind=6 from rfl,hp]
  cases decide (b<=renC sp (tick/sl.length)) with
  |true=>rfl
  |false=>rfl
def RenI (sl:List Int) (b:Int) (v k:Nat) (x:B_):Prop:=∃ ri sp nt,x=renS sl b ri sp nt/\RiOk ri/\ri.total=v*b+min (k:Int) b/\renC sp v=min (k:Int) b/\∀ w:Nat,v<w->renC sp w=0
theorem Yk_ {sl:List Int} {budget:Int} {v1:Nat} (hv:v1<=6) (hl:0<sl.length/\sl.length<=10):∀ (f k:Nat) (x:B_),18<k+f->k<=18->RenI sl (budget%17) v1 k x->∃ y,C1_ budget sl v1 f k x = .fin y/\RenI sl (budget%17) (v1+1) 0 y
  |0,k,x,h,h2,_=>by omega
  |f+1,k,x,h,h2,⟨ri,sp,nt,hx,hk,ht,hc,hw⟩=>by
    have hb:0<=budget%17/\budget%17<17:=by omega
    have hm:(v1:Int)*(budget%17)<=6*17:=Int.mul_le_mul (by omega) (by omega) (by omega) (by omega)
    have hm0:0<=(v1:Int)*(budget%17):=Int.mul_nonneg (by omega) (by omega)
    subst hx
    unfold C1_ lt
    by_cases hk18:(k:Int)<18
    · rw[decide_eq_true hk18,cond_true]
      have hL:(v1:Int)*(sl.length:Int)<=6*10:=Int.mul_le_mul (by omega) (by omega) (by omega) (by omega)
      have hL0:0<=(v1:Int)*(sl.length:Int):=Int.mul_nonneg (by omega) (by omega)
      have hq0:0<=(k:Int)%(sl.length:Int):=Int.emod_nonneg _ (by omega)
      have hq1:(k:Int)%(sl.length:Int)<sl.length:=Int.emod_lt_of_pos _ (by omega)
      have w1:IntKind.wrap .u64 ((v1:Int)*(sl.length:Int))=(v1:Int)*(sl.length:Int):=by rw[IntKind.wrap_u64];omega
      have w2:IntKind.wrap .u64 ((k:Int)%(sl.length:Int))=(k:Int)%(sl.length:Int):=by rw[IntKind.wrap_u64];omega
      have w3:IntKind.wrap .u64 ((v1:Int)*(sl.length:Int)+(k:Int)%(sl.length:Int))=(v1:Int)*(sl.length:Int)+(k:Int)%(sl.length:Int):=by rw[IntKind.wrap_u64];omega
      rw[w1,w2,w3]
      have hd:((v1:Int)*(sl.length:Int)+(k:Int)%(sl.length:Int))/(sl.length:Int)=v1:=by
        rw[Int.add_comm,Int.add_mul_ediv_right _ _ (by omega),Int.ediv_eq_zero_of_lt hq0 hq1];omega
      have hdo:=ren_do (sl:=sl) (b:=budget%17) (tick:=(v1:Int)*(sl.length:Int)+(k:Int)%(sl.length:Int)) (ri:=ri) (sp:=sp) (nt:=nt) (by omega) hk
      rw[hd,hc] at hdo
      rw[show (⟨6,(v1:Int)*(sl.length:Int)+(k:Int)%(sl.length:Int),(⟨[],0,[]⟩:ShopR),(⟨[],0,0,[]⟩:O_),(⟨[],[],false,[],[],false⟩:BindR),[],0,0,0,0,0,(⟨0,[114],[],[],[],0,0⟩:Mail),[]⟩:DeedR)=renD ((v1:Int)*(sl.length:Int)+(k:Int)%(sl.length:Int)) from rfl,hdo]
      by_cases hkb:(k:Int)<budget%17
      · rw[decide_eq_false (show ¬(budget%17<=min (k:Int) (budget%17)) by omega),cond_false]
        have hr:=Yk_ (budget:=budget) hv hl f (k+1) (renS sl (budget%17) (ren1 ri) ⟨v1,min (k:Int) (budget%17)+1⟩ (renN nt ((v1:Int)*(sl.length:Int)+(k:Int)%(sl.length:Int)))) (by omega) (by omega) ⟨_,_,_,rfl,Nm_ hk,by
          rw[(Yl_ (ri:=ri) (by omega)).2];omega,by simp only[renC,if_true];omega,fun w hw=>if_neg (by show ¬((v1:Int)=w);omega)⟩
        dsimp only
        rw[decide_eq_true hkb,show decide ((0:Int)=0)=true from rfl]
        exact hr
      · rw[decide_eq_true (show budget%17<=min (k:Int) (budget%17) by omega),cond_true]
        have hr:=Yk_ (budget:=budget) hv hl f (k+1) (renS sl (budget%17) ri sp nt) (by omega) (by omega) ⟨_,_,_,rfl,hk,by omega,by omega,hw⟩
        dsimp only
        rw[decide_eq_false hkb,show decide ((19:Int)=0)=false from rfl,show decide ((19:Int)=19)=true from rfl]
        exact hr
    · rw[decide_eq_false hk18,cond_false]
      have h18:min (k:Int) (budget%17)=budget%17:=by omega
      have hs:((v1:Int)+1)*(budget%17)=(v1:Int)*(budget%17)+budget%17:=by rw[Int.add_mul];omega
      have w1:IntKind.wrap .u64 ((v1:Int)+1)=(v1:Int)+1:=by rw[IntKind.wrap_u64];omega
      have w2:IntKind.wrap .u64 (((v1:Int)+1)*(budget%17))=(v1:Int)*(budget%17)+budget%17:=by rw[IntKind.wrap_u64,hs];omega
      rw[w1,w2]
      have h3:Fu_ (Eh_ (E8_ (renS sl (budget%17) ri sp nt)).stock 1)=ri.total:=rfl
      dsimp only
      rw[h3,ht,h18,decide_eq_true rfl]
      refine⟨_,rfl,ri,sp,nt,rfl,hk,?_,hw (v1+1) (by omega) |>.trans ?_,fun w h=>hw w (by omega)⟩
      · rw[ht,h18];simp only[Int.natCast_add,Int.natCast_one,hs];omega
      · omega
theorem ren_l1 {sl:List Int} {budget rounds:Int} (hl:0<sl.length/\sl.length<=10) (r:B_):∀ (f v:Nat) (x:B_),rounds%7<(v:Int)+f->(v:Int)<=rounds%7->RenI sl (budget%17) v 0 x->Ca_ budget rounds sl r f v x=true
  |0,v,x,h,h2,hx=>by omega
  |f+1,v,x,h,h2,hx=>by
    unfold Ca_
    by_cases hv:(v:Int)<rounds%7
    · obtain⟨y,e,hy⟩:=Yk_ (budget:=budget) (v1:=v) (by omega) hl (18-0+1) 0 x (by omega) (by omega) hx
      rw[decide_eq_true hv,cond_true,e]
      show Ca_ budget rounds sl r f (IntKind.wrap .u64 ((v:Int)+1)).toNat y=true
      rw[show (IntKind.wrap .u64 ((v:Int)+1)).toNat=v+1 by rw[IntKind.wrap_u64];omega]
      exact ren_l1 hl r f (v+1) y (by omega) (by omega) hy
    · rw[decide_eq_false hv];rfl
theorem ren_l0 {budget slots rounds:Int}:∀ (f v:Nat) (sl:List Int),slots%5<(v:Int)+f->(v:Int)<=slots%5->sl.length=v+2->C0_ budget slots rounds f v 4 1 renPl sl []=true
  |0,v,sl,h,h5,hl=>by
    omega
  |f+1,v,sl,h,h5,hl=>by
    unfold C0_ lt
    by_cases hv:(v:Int)<slots%5
    · rw[decide_eq_true hv,cond_true,show (IntKind.wrap .u8 ((v:Int)+1)).toNat=v+1 by rw[IntKind.wrap_u8];omega]
      exact ren_l0 f (v+1) _ (by omega) (by omega) (by simp only[List.length_append,List.length_cons,List.length_nil];omega)
    · rw[decide_eq_false hv,cond_false]
      dsimp only
      rw[show (⟨4,1,renPl,sl,[⟨0,1,budget%17⟩]⟩:E_)=renP sl (budget%17) from rfl,ren_make]
      dsimp only
      rw[show (!decide ((0:Int)=0))=false from rfl,cond_false]
      refine ren_l1 (by omega) _ _ 0 _ (by omega) (by omega) ⟨_,_,_,rfl,?_,?_,?_,?_⟩
      · exact⟨by decide,fun m hm=>nomatch hm⟩
      · show (0:Int)=_;simp;omega
      · simp only[renC];split<;>omega
      · intro w hw;simp only[renC];split<;>rfl
theorem Rq_:Iw_=true:=by decide +kernel
theorem law23_renews (budget slots rounds:Int):Et_ budget slots rounds=true:=by
  unfold Et_
  rw[Rq_]
  exact ren_l0 _ 0 _ (by omega) (by omega) rfl
end Go.SW.V
