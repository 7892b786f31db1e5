/-
  A part of the proof of ReportImage: The walks of this seat, printed by program: policy.place, policy.Policy.grant, policy.Policy.places, policy.Policy.slots, policy.Policy.grants, policy.Policy.Check, policy.number, policy.small, policy.Policy.named, lattice.Parse.
-/
import Derived.Test.YteppialeoliobaaGreatDoorProg
import Derived.Test.YteppialeoliobaaGreatDoorReportImageP3
import Derived.KernelRfl
import Derived.Test.YteppialeoliobaaGreatDoorReportImageP6
import Derived.Test.YteppialeoliobaaGreatDoorReportImageP4
import Derived.Test.YteppialeoliobaaGreatDoorReportImageP5
set_option linter.unusedVariables false
set_option linter.unusedSimpArgs false
set_option maxRecDepth 100000
set_option maxHeartbeats 4000000
open Go.Proofs.Tryz
namespace Go.SW.V
open Go.SW Go.Proofs
abbrev R24_:(Int×Int)->PV:=λr=> .tup [.int .u64 r.1, .int .i64 r.2]
abbrev R25_:(Int×Bs×Int)->PV:=λr=> .tup [.int .i64 r.1, .str r.2.1, .int .i64 r.2.2]
theorem Tz_ (x:A3_) (ahead:List A3_):Fn prog gb 318 [.agg (A3_.pc x), .sl A3_.pc ahead] (.int .i64 (Kg_ x ahead)):=by
 refine kG func318 ntmps318 λw N H hG=>?_;have e0:=Kg_.eq_1 x ahead;generalize Kg_ x ahead=z at e0 ⊢;refine kB 8 [0] λB2=>?_;refine freeze (i:=0) (t:=2) rfl rfl rfl rfl<|kA 9 ?_;refine call (Ey_ _) rfl rfl λw3=>kA 11 ?_;refine cN e0 (λp6 e7=>?_) (λp9 e10=>?_)
 . refine kA 9 ?_;subst e7;exact qr1
 refine kA 1 ?_;obtain⟨o,e_o,q_o⟩:=Hl_ e10;refine Ii_ (ι:=Bool) [1,4,5] [] (λv=>[(15, .bool v)]) (λv=>[]) (λv=>o=v) ?_ ?_
 . refine kA 4 ?_;refine call (Rk_ _) rfl rfl λw11=>kA 4 ?_;refine cE e_o (λh12 e14=>?_) (λh12 e16=>?_)
   . have h13:=E7_ h12;refine kA 1 ?_;refine nX (!(Jl_ x.label)) ?_ ⟨rfl,trivial⟩ trivial;exact e14
   have h15:=Eu_ h12;refine kA 4 ?_;refine call (H0_ _ _ _) rfl rfl λw17=>kA 4 ?_;refine cE e16 (λh18 e20=>?_) (λh18 e22=>?_)
   . have h19:=E7_ h18;refine kA 1 ?_;refine nX (!(D8_ x.bytes 0 65536)) ?_ ⟨rfl,trivial⟩ trivial;exact e20
   have h21:=Eu_ h18;refine kA 6 ?_;refine nX (decide (x.base=0)) ?_ ⟨rfl,trivial⟩ trivial;exact e22
 rintro v hp23;have e24:=J1_ q_o hp23;refine kA 1 ?_;refine cE e24 (λh25 e26=>?_) (λh25 e27=>?_)
 . refine kA 8 ?_;subst e26;exact qr1
 refine kA 4 ?_;refine call (cF_Place _ _ _ _ (λz_28:A3_=>(K0_ z_28 x)) (λz_28=>Ro_ z_28 x)) rfl rfl λw29=>kA 3 ?_;refine cD e27 (λp31 e32=>?_) (λp33 e34=>?_)
 . refine kA 8 ?_;subst e32;exact qr1
 refine kA 9 ?_;subst e34;exact qr1
theorem Nl_ (p:C_) (x:B0_) (ahead:List B0_):Fn prog gb 319 [.agg (C_.pc p), .agg (B0_.pc x), .sl B0_.pc ahead] (.int .i64 (Gl_ p x ahead)):=by
 refine kG func319 ntmps319 λw N H hG=>?_;have e0:=Gl_.eq_1 p x ahead;generalize Gl_ p x ahead=z at e0 ⊢;refine kB 9 [0,1] λB2=>?_;refine freeze (i:=1) (t:=4) rfl rfl rfl rfl<|kA 12 ?_;refine call (Fj_ _ _) rfl rfl λw4=>kA 4 ?_;refine cE e0 (λh5 e7=>?_) (λh5 e10=>?_)
 . have h6:=E7_ h5;refine kA 2 ?_;refine cndT rfl h5 ?_;refine kA 8 ?_;subst e7;exact qr1
 have h8:=Eu_ h5;have hb8:=there_in h8
 (try obtain⟨hb8a,hb8b⟩:=hb8)
 refine kA 4 ?_;refine call (Fj_ _ _) rfl rfl λw11=>kA 4 ?_;refine cE e10 (λh12 e14=>?_) (λh12 e17=>?_)
 . have h13:=E7_ h12;refine kA 8 ?_;subst e14;exact qr1
 have h15:=Eu_ h12;have hb15:=there_in h15
 (try obtain⟨hb15a,hb15b⟩:=hb15)
 refine kA 1 ?_;refine aN [1,2,3,4,5,6] 16 mixd<|kE [0,1,2,3] 12 ?_;have hc18:=getG (xs:=p.places) (k:=(x.frm).toNat) (by omega);refine vq 4 (qidx G_ (x.frm).toNat rfl rfl (by omega) hc18 rfl rfl rfl rfl) rfl (by kernel_rfl) rfl λw19=>kE [5,6,7,8,9,10] 5 ?_;have hc20:=getG (xs:=p.places) (k:=(x.to').toNat) (by omega);refine vq 11 (qidx G_ (x.to').toNat rfl rfl (by omega) hc20 rfl rfl rfl rfl) rfl (by kernel_rfl) rfl λw21=>kE [12,13] 2 ?_;refine vC 14 rfl (Hw_ _ _) rfl λw22=>kE [15] 0 ?_;refine vD<|kA 1 ?_;refine cE e17 (λh23 e24=>?_) (λh23 e25=>?_)
 . refine kA 8 ?_;subst e24;exact qr1
 refine kA 4 ?_;refine call (H0_ _ _ _) rfl rfl λw26=>kA 4 ?_;refine cE e25 (λh27 e29=>?_) (λh27 e31=>?_)
 . have h28:=E7_ h27;refine kA 8 ?_;subst e29;exact qr1
 have h30:=Eu_ h27;refine kA 4 ?_;refine call (cF_Grant _ _ _ _ (λz_32:B0_=>(Kz_ z_32 x)) (λz_32=>Rn_ z_32 x)) rfl rfl λw33=>kA 3 ?_;refine cD e31 (λp35 e36=>?_) (λp37 e38=>?_)
 . refine kA 8 ?_;subst e36;exact qr1
 refine kA 9 ?_;subst e38;exact qr1
theorem M8_ (p:C_):Fn prog gb 306 [.agg (C_.pc p)] (.int .i64 (Fa_ p)):=by
 refine kG func306 ntmps306 λw N H hG=>?_;have p_places_l:p.places.length<=140737488355328:=w.1.2.2.1.1;have p_slots_l:p.slots.length<=140737488355328:=w.1.2.2.2.1.1;have p_grants_l:p.grants.length<=140737488355328:=w.1.2.2.2.2.1.1;have e0:=Fa_.eq_1 p;refine kB 11 [0] λB2=>?_;refine cV e0 R0_ (Lg_ _ _ _) rfl λr hr3 e5 w4=>kA 10 ?_;refine loop (ι:=Nat×Int×Nat) [1,2] [0] (λ⟨f,e_1,i⟩=>[(3, .int .i64 e_1),(4, .int .i64 (i:Int))]) (λ⟨f,e_1,i⟩=>[]) (λ⟨f,e_1,i⟩=>p.places.length+1-i<f/\Fa_ p=Gc_ p f e_1 i/\i<=p.places.length) (λ⟨f,e_1,i⟩=>f) ⟨(p.places.length+1-0+1),r,0⟩ ⟨rfl,rfl,trivial⟩ trivial ?_ ?_
 . exact⟨Nat.lt_succ_self _,e5,Nat.zero_le _⟩
 rintro⟨f,e_1,i⟩ ⟨hp6_1,hp6_2,hp6_3⟩;obtain⟨f1,rfl⟩:∃ q,f=q+1:=⟨f-1,by omega⟩;have e_f1:=hp6_2.trans (Gc_.eq_2 _ _ _ _);refine kC 14 ?_;refine cE e_f1 (λh7 e12=>?_) (λh7 e17=>?_)
 . have h8:=bl h7;have p9:=dt h8;have h10:=br h7;have p11:=dt h10;refine kA 4 ?_;refine aN [1,2,3,4,5,6] 11 mixd<|kE [0,1,2] 8 ?_;have hc13:=getG (xs:=p.places) (k:=i) (by omega);refine vq 3 (qidx G_ i rfl rfl rfl hc13 rfl rfl rfl rfl) rfl (by kernel_rfl) rfl λw14=>kE [4,5,6,7] 3 ?_;refine vq 8 (lshi G_ i rfl rfl rfl rfl rfl (λ_=>rfl) rfl (by omega)) rfl (by kernel_rfl) rfl λw15=>vC 9 rfl (Tz_ _ _) rfl λw16=>kE [10] 0 ?_;refine vD<|kC 7 ?_;refine next ⟨f1,(Kg_ (gt p.places i) (p.places.take i)),(i+1)⟩ rfl rfl ⟨rfl,rfl,trivial⟩ trivial ?_ ?_
   . (try simp only[]);omega
   exact⟨by (try simp only[]);omega,e12,by omega⟩
 refine kA 12 ?_;exact rt1 rfl rfl (Am_ (λr:Int=> .int .i64 r) e17 (ple rfl))
theorem Nm_ (p:C_):Fn prog gb 307 [.agg (C_.pc p)] (.int .i64 (Fk_ p)):=by
 refine kG func307 ntmps307 λw N H hG=>?_;have p_places_l:p.places.length<=140737488355328:=w.1.2.2.1.1;have p_slots_l:p.slots.length<=140737488355328:=w.1.2.2.2.1.1;have p_grants_l:p.grants.length<=140737488355328:=w.1.2.2.2.2.1.1;have e0:=Fk_.eq_1 p;refine kB 11 [0] λB2=>?_;refine cV e0 R0_ (Lg_ _ _ _) rfl λr hr3 e5 w4=>kA 10 ?_;refine loop (ι:=Nat×Int×Nat) [1,2] [0] (λ⟨f,e_1,i⟩=>[(3, .int .i64 e_1),(4, .int .i64 (i:Int))]) (λ⟨f,e_1,i⟩=>[]) (λ⟨f,e_1,i⟩=>p.slots.length+1-i<f/\Fk_ p=Fi_ p f e_1 i/\i<=p.slots.length) (λ⟨f,e_1,i⟩=>f) ⟨(p.slots.length+1-0+1),r,0⟩ ⟨rfl,rfl,trivial⟩ trivial ?_ ?_
 . exact⟨Nat.lt_succ_self _,e5,Nat.zero_le _⟩
 rintro⟨f,e_1,i⟩ ⟨hp6_1,hp6_2,hp6_3⟩;obtain⟨f1,rfl⟩:∃ q,f=q+1:=⟨f-1,by omega⟩;have e_f1:=hp6_2.trans (Fi_.eq_2 _ _ _ _);refine kC 14 ?_;refine cE e_f1 (λh7 e12=>?_) (λh7 e21=>?_)
 . have h8:=bl h7;have p9:=dt h8;have h10:=br h7;have p11:=dt h10;refine kA 5 ?_;refine aN [1,2,3,4,5,6] 8 mixd<|kE [0,1,2,3] 4 ?_;have hc13:=getG (xs:=p.slots) (k:=i) (by omega);refine vq 4 (qidx G_ i rfl rfl rfl hc13 rfl rfl rfl rfl) rfl (by kernel_rfl) rfl λw14=>kE [5] 2 ?_;refine vC 6 rfl (Fj_ _ _) rfl λw15=>kE [7] 0 ?_;refine vD<|kA 1 ?_;refine cE e12 (λh16 e18=>?_) (λh16 e20=>?_)
   . have h17:=E7_ h16;refine kC 10 ?_;refine next ⟨f1,10,(i+1)⟩ rfl rfl ⟨rfl,rfl,trivial⟩ trivial ?_ ?_
     . (try simp only[]);omega
     exact⟨by (try simp only[]);omega,e18,by omega⟩
   have h19:=Eu_ h16;refine kC 8 ?_;refine next ⟨f1,e_1,(i+1)⟩ rfl rfl ⟨rfl,rfl,trivial⟩ trivial ?_ ?_
   . (try simp only[]);omega
   exact⟨by (try simp only[]);omega,e20,by omega⟩
 refine kA 12 ?_;exact rt1 rfl rfl (Am_ (λr:Int=> .int .i64 r) e21 (ple rfl))
theorem M7_ (p:C_):Fn prog gb 308 [.agg (C_.pc p)] (.int .i64 (E9_ p)):=by
 refine kG func308 ntmps308 λw N H hG=>?_;have p_places_l:p.places.length<=140737488355328:=w.1.2.2.1.1;have p_slots_l:p.slots.length<=140737488355328:=w.1.2.2.2.1.1;have p_grants_l:p.grants.length<=140737488355328:=w.1.2.2.2.2.1.1;have e0:=E9_.eq_1 p;refine kB 11 [0] λB2=>?_;refine cV e0 R0_ (Lg_ _ _ _) rfl λr hr3 e5 w4=>kA 10 ?_;refine loop (ι:=Nat×Int×Nat) [1,2] [0] (λ⟨f,e_1,i⟩=>[(3, .int .i64 e_1),(4, .int .i64 (i:Int))]) (λ⟨f,e_1,i⟩=>[]) (λ⟨f,e_1,i⟩=>p.grants.length+1-i<f/\E9_ p=Gb_ p f e_1 i/\i<=p.grants.length) (λ⟨f,e_1,i⟩=>f) ⟨(p.grants.length+1-0+1),r,0⟩ ⟨rfl,rfl,trivial⟩ trivial ?_ ?_
 . exact⟨Nat.lt_succ_self _,e5,Nat.zero_le _⟩
 rintro⟨f,e_1,i⟩ ⟨hp6_1,hp6_2,hp6_3⟩;obtain⟨f1,rfl⟩:∃ q,f=q+1:=⟨f-1,by omega⟩;have e_f1:=hp6_2.trans (Gb_.eq_2 _ _ _ _);refine kC 14 ?_;refine cE e_f1 (λh7 e12=>?_) (λh7 e17=>?_)
 . have h8:=bl h7;have p9:=dt h8;have h10:=br h7;have p11:=dt h10;refine kA 4 ?_;refine aN [1,2,3,4,5,6] 12 mixd<|kE [0,1,2,3] 8 ?_;have hc13:=getG (xs:=p.grants) (k:=i) (by omega);refine vq 4 (qidx G_ i rfl rfl rfl hc13 rfl rfl rfl rfl) rfl (by kernel_rfl) rfl λw14=>kE [5,6,7,8] 3 ?_;refine vq 9 (lshi G_ i rfl rfl rfl rfl rfl (λ_=>rfl) rfl (by omega)) rfl (by kernel_rfl) rfl λw15=>vC 10 rfl (Nl_ _ _ _) rfl λw16=>kE [11] 0 ?_;refine vD<|kC 7 ?_;refine next ⟨f1,(Gl_ p (gt p.grants i) (p.grants.take i)),(i+1)⟩ rfl rfl ⟨rfl,rfl,trivial⟩ trivial ?_ ?_
   . (try simp only[]);omega
   exact⟨by (try simp only[]);omega,e12,by omega⟩
 refine kA 12 ?_;exact rt1 rfl rfl (Am_ (λr:Int=> .int .i64 r) e17 (ple rfl))
theorem Nk_ (p:C_):Fn prog gb 287 [.agg (C_.pc p)] (.int .i64 (Ht_ p)):=by
 refine kG func287 ntmps287 λw N H hG=>?_;have p_places_l:p.places.length<=140737488355328:=w.1.2.2.1.1;have p_slots_l:p.slots.length<=140737488355328:=w.1.2.2.2.1.1;have p_grants_l:p.grants.length<=140737488355328:=w.1.2.2.2.2.1.1;have e0:=Ht_.eq_1 p;generalize Ht_ p=z at e0 ⊢;refine kB 11 [0] λB2=>?_;refine call (H0_ _ _ _) rfl rfl λw3=>kC 4 ?_;refine callg rfl (λhc=>(H0_ _ _ _)) rfl ⟨(λhc=>hc),trivial⟩ rfl rfl λ_=>kC 4 ?_;refine cE e0 (λh4 e5=>?_) (λh4 e10=>?_)
 . refine kA 7 ?_;subst e5;exact qr1
 have h6:=orl h4;have h7:=Eu_ h6;have h8:=orr h4;have h9:=Eu_ h8;refine kA 4 ?_;refine aN [1,2,3,4,5,6] 9 mixd<|kE [0] 8 ?_;refine vC 1 rfl (M8_ _) rfl λw11=>kE [2] 6 ?_;refine vC 3 rfl (Nm_ _) rfl λw12=>kE [4] 4 ?_;refine vC 5 rfl (M7_ _) rfl λw13=>vE 6 rfl (bsl 1 i64c [(Fa_ p),(Fk_ p),(E9_ p)] G_ rfl rfl rfl rfl rfl (λ_=>rfl) rfl (by decide) (by decide) rfl λu14=>?_);refine vE 7 rfl (calll 1 rfl (cmp_Or_ok _) rfl rfl rfl λw15=>?_);refine kE [8] 0 ?_;refine vD<|kA 7 ?_;refine cN e10 (λp18 e19=>?_) (λp21 e22=>?_)
 . refine kA 8 ?_;subst e19;exact qr1
 refine kA 12 ?_;refine loop (ι:=Nat) [1,28] [0,1] (λk=>[(29, .int .i64 (k:Int))]) (λk=>[]) (λk=>k<=p.places.length/\z=D4_ p (p.places.drop k) k) (λk=>p.places.length-k) 0 ⟨rfl,trivial⟩ trivial ?_ ?_
 . exact⟨Nat.zero_le _,e22⟩
 rintro k ⟨hp23_1,hp23_2⟩;refine kA 6 ?_;refine cn rfl (λp25=>?_) λp33=>?_
 . have e26:=C5_ (f:=λzz=>D4_ p zz k) hp23_2 (Gs_ (by omega)) (D4_.eq_2 _ _ _ _);refine kA 15 ?_;refine call (So_ _ _) rfl rfl λw27=>kA 3 ?_;refine cE e26 (λh28 e30=>?_) (λh28 e32=>?_)
   . have h29:=E7_ h28;refine kA 11 ?_;subst e30;exact qr1
   have h31:=Eu_ h28;refine kC 7 ?_;refine next (k+1) rfl rfl ⟨rfl,trivial⟩ trivial ?_ ?_
   . (try simp only[]);omega
   exact⟨by (try simp only[]);omega,e32⟩
 have e34:=C5_ (f:=λzz=>D4_ p zz k) hp23_2 (Gy_ (by omega)) (D4_.eq_1 _ _);refine kA 11 ?_;subst e34;exact qr1
theorem Nh_ (s:Bs) (most:Int) (hl:s.length<=19:=by omega):Fn prog gb 316 [.str s, .int .u64 most] (.tup [.int .u64 ((Ip_ s most).1), .int .i64 ((Ip_ s most).2)]):=by
 refine kG func316 ntmps316 λw N H hG=>?_;have e0:=Ip_.eq_1 s most;generalize Ip_ s most=z at e0 ⊢;have :=u8r (s.getD 0 0);refine kC 17 ?_;refine q1g [16] rfl (λhc=>sidx G_ 0 rfl rfl rfl rfl rfl (by first|omega|(simp only[gOf,bl2] at *;omega))) ⟨(λhc=>hc),trivial⟩ rfl rfl rfl λ_=>?_;refine kC 5 ?_;refine cE e0 (λh1 e2=>?_) (λh1 e6=>?_)
 . refine kA 8 ?_;subst e2;exact qr2
 have h3:=orl h1;have p4:=df h3;have h5:=orr h1;refine kA 11 ?_;refine loop (ι:=Nat) [0,1,22] [] (λk=>[(23, .int .i64 (k:Int))]) (λk=>[]) (λk=>k<=s.length/\z=Fz_ s most (s.drop k)/\Ie_ (s.take k)=true) (λk=>s.length-k) 0 ⟨rfl,trivial⟩ trivial ?_ ?_
 . exact⟨Nat.zero_le _,e6,rfl⟩
 rintro k ⟨hp7_1,hp7_2,hp7_3⟩;refine kA 6 ?_;refine cnd rfl (λh8=>?_) (λh8=>?_)
 . have p9:=dt h8;have e10:=C5_ (f:=λzz=>Fz_ s most zz) hp7_2 (Gs_ (by omega)) (Fz_.eq_2 _ _ _ _);have :=u8r (s.getD k 0);refine kA 14 ?_;refine q1 (sidx G_ k rfl rfl rfl rfl rfl (by omega)) rfl λw11=>?_;have :=u8r (s.getD k 0);refine kA 4 ?_;refine q1g [31,32] rfl (λhc=>sidx G_ k rfl rfl rfl rfl rfl (by first|omega|(simp only[gOf,bl2] at *;omega))) ⟨(λhc=>hc),(λhc=>hc),trivial⟩ rfl rfl rfl λ_=>?_;refine kC 4 ?_;refine cE e10 (λh12 e13=>?_) (λh12 e18=>?_)
   . refine kA 12 ?_;subst e13;exact qr2
   have h14:=orl h12;have p15:=df h14;have h16:=orr h12;have p17:=df h16;refine kC 7 ?_;refine next (k+1) rfl rfl ⟨rfl,trivial⟩ trivial ?_ ?_
   . (try simp only[]);omega
   exact⟨by (try simp only[]);omega,e18,dig_step (by assumption) (by omega) (by assumption)⟩
 have p19:=df h8;have e20:=C5_ (f:=λzz=>Fz_ s most zz) hp7_2 (Gy_ (by omega)) (Fz_.eq_1 _ _);refine kA 8 ?_;refine call (strconv_PU _ _ _ (by rfl) (by rfl) (by omega) (by exact List.length_pos_iff.2 (by assumption)) (by exact dig_all (by assumption) (by omega))) rfl rfl λw21=>kA 11 ?_;refine q1 (qnilN rfl underlying222) rfl λw22=>kA 1 ?_;refine ungd rfl rfl<|kA 1 ?_;refine ungd rfl rfl<|kA 1 ?_;refine ungd rfl rfl<|kA 4 ?_;refine cD e20 (λp24 e25=>?_) (λp26 e27=>?_)
 . refine kA 8 ?_;subst e25;exact qr2
 refine kA 10 ?_;subst e27;exact qr2
theorem Ft_ (s:Bs) (hl:s.length<=19:=by omega):Fn prog gb 301 [.str s] (.tup [.int .i64 ((Fs_ s).1), .int .i64 ((Fs_ s).2)]):=by
 refine kG func301 ntmps301 λw N H hG=>?_;have e0:=Fs_.eq_1 s;refine kA 9 ?_;refine cV e0 R24_ (Nh_ _ _) rfl λr hr1 e3 w2=>kA 17 ?_;exact rt2 rfl rfl (Am_ (λr:Int×Int=> .tup [.int .i64 r.1, .int .i64 r.2]) e3 (ple rfl))
theorem Fh_ (p:C_) (s:Bs):Fn prog gb 302 [.agg (C_.pc p), .str s] (.tup [.int .i64 ((Bq_ p s).1), .int .i64 ((Bq_ p s).2)]):=by
 refine kG func302 ntmps302 λw N H hG=>?_;have e0:=Bq_.eq_1 p s;generalize Bq_ p s=z at e0 ⊢;refine kB 12 [0] λB2=>?_;refine cV e0 R0_ (G4_ _ _) rfl λr hr3 e5 w4=>?_;have hA5:=find_b p s
 (try rw[<- hr3] at hA5)
 refine kA 9 ?_;refine cD e5 (λp8 e9=>?_) (λp10 e11=>?_)
 . refine kA 9 ?_;subst e9;exact qr2
 refine kA 9 ?_;subst e11;exact qr2
theorem I3_ (s:Bs):Fn prog gb 211 [.str s] (.tup [.agg (Cq_.pc ((G1_ s).1)), .int .i64 ((G1_ s).2)]):=by
 refine kG func211 ntmps211 λw N H hG=>?_;have e0:=G1_.eq_1 s;generalize G1_ s=z at e0 ⊢;refine kB 9 [0] λB2=>?_;refine cV e0 R25_ (Mi_ _ _) rfl λr hr3 e5 w4=>?_;have hA5:=lnum_r s 15 (by omega)
 (try rw[<- hr3] at hA5)
 refine kA 16 ?_;refine cN e5 (λp9 e10=>?_) (λp13 e14=>?_)
 . refine kB 10 [] λ_=>?_;subst e10;exact qr2
 refine kB 18 [1] λB16=>?_;refine loop (ι:=Nat×Bs×Int×Cq_) [2,6] [0] (λ⟨f,s1,last,x⟩=>[(0, .str s1),(7, .int .i64 last)]) (λ⟨f,s1,last,x⟩=>[(1, .box (B16 0) 97 (Cq_.pc x))]) (λ⟨f,s1,last,x⟩=>s1.length<f/\z=I2_ f s1 last x/\True) (λ⟨f,s1,last,x⟩=>f) ⟨(r.2.1.length+1),r.2.1,(-1),(⟨(IntKind.wrap .u8 r.1),0⟩:Cq_)⟩ ⟨rfl,rfl,trivial⟩ ⟨rfl,trivial⟩ ?_ ?_
 . exact⟨Nat.lt_succ_self _,e14,trivial⟩
 rintro⟨f,s1,last,x⟩ ⟨hp17_1,hp17_2,hp17_3⟩;obtain⟨f1,rfl⟩:∃ q,f=q+1:=⟨f-1,by omega⟩;have e_f1:=hp17_2.trans (I2_.eq_2 _ _ _ _);refine kA 8 ?_;refine cD e_f1 (λp19 e20=>?_) (λp49 e50=>?_)
 . have :=u8r (s1.getD 0 0);refine kA 7 ?_;refine q1 (sidx G_ 0 rfl rfl rfl rfl rfl (by omega)) rfl λw21=>kA 3 ?_;refine cN e20 (λp24 e25=>?_) (λp28 e29=>?_)
   . refine kB 13 [] λ_=>?_;subst e25;exact qr2
   refine kA 5 ?_;refine q1 (sslo G_ 1 rfl rfl rfl rfl rfl (by omega)) rfl λw30=>cV e29 R25_ (Mi_ _ _) rfl λr1 hr31 e33 w32=>?_;have hA33:=lnum_r (s1.drop 1) 31 (by omega)
   (try rw[<- hr31] at hA33)
   refine kA 18 ?_;refine cN e33 (λp37 e38=>?_) (λp41 e42=>?_)
   . refine kB 15 [] λ_=>?_;subst e38;exact qr2
   refine kA 8 ?_;refine cD e42 (λp44 e45=>?_) (λp47 e48=>?_)
   . refine kB 14 [] λ_=>?_;subst e45;exact qr2
   refine kA 4 ?_;refine aN [2,3,4,5,6,7] 7 mixd ?_;have :=wr_u32 ((BitVec.ofInt (IntKind.bits .u32) x.Z7_ |||BitVec.ofInt (IntKind.bits .u32) (IntKind.wrap .u32 (1*2 ^ (min (r1.1:Int).toNat (IntKind.bits .u32))))).toNat)
   refine kF [0,1,2,3,4,5] 1 ?_;refine vT 6 rfl (sO G_ ?_);refine vD<|kA 8 ?_;refine next ⟨f1,r1.2.1,r1.1,(⟨x.level,(IntKind.wrap .u32 ((BitVec.ofInt (IntKind.bits .u32) x.Z7_ |||BitVec.ofInt (IntKind.bits .u32) (IntKind.wrap .u32 (1*2 ^ (min (r1.1:Int).toNat (IntKind.bits .u32))))).toNat))⟩:Cq_)⟩ rfl rfl ⟨rfl,rfl,trivial⟩ ⟨rfl,trivial⟩ ?_ ?_
   . (try simp only[]);omega
   exact⟨(by simp only[List.length_drop] at *;omega),e48,trivial⟩
 refine kB 13 [] λ_=>?_;subst e50;exact qr2
abbrev R26_:(List Bs)->PV:=λr=> .sl strc r
abbrev R27_:(Int×Int)->PV:=λr=> .tup [.int .i64 r.1, .int .i64 r.2]
abbrev R28_:(Cq_×Int)->PV:=λr=> .tup [.agg (Cq_.pc r.1), .int .i64 r.2]
theorem cb286:Ad_ prog 286:=Aa_ func286 (by kernel_rfl) (by kernel_rfl)
theorem cb303:Ad_ prog 303:=Aa_ func303 (by kernel_rfl) (by kernel_rfl)
theorem cb304:Ad_ prog 304:=Aa_ func304 (by kernel_rfl) (by kernel_rfl)
abbrev ty26v122:TI:=⟨.agg [(0,1),(1,1),(2,1),(3,1),(4,1)],5,88,[.int .i64 0, .int .i64 0, .val (.slice none 0 0), .val (.slice none 0 0), .val (.slice none 0 0)]⟩
def tbv122:Tb:=[(3,ty3),(9,ty9),(22,ty22),(23,ty23),(24,ty24),(26,ty26v122),(86,ty86),(97,ty97),(99,ty99),(145,ty145)]
theorem V_:tbB prog tbv122=true:=by kernel_rfl
theorem Ty_ (s:Bs) (hs:plen s=true:=by first|assumption|decide +kernel):Fn prog gb 258 [.str s] (.tup [.agg (C_.pc ((Jg_ s).1)), .int .i64 ((Jg_ s).2.1), .int .i64 ((Jg_ s).2.2)]):=by
 refine fC func258 V_ ntmps258 λw N H hG=>?_;have hpl:=plen_ok hs;have hpl1:=hpl.1;have hcl:=cuts_le 10 s;have e0:=Jg_.eq_1 s;generalize Jg_ s=z at e0 ⊢;refine gm V_ 16 [0,1] λB2=>?_;refine call (strings_SplitL _ _ (by rfl) (by omega)) rfl rfl λw4=>gx V_ 5 ?_;refine O0_ (i:=1) (o:=2) (k:=5) (e:=99) 2 A3_.pc rfl (by decide) rfl rfl ?_;refine O0_ (i:=1) (o:=3) (k:=1) (e:=3) 3 i64c rfl (by decide) rfl rfl ?_;refine O0_ (i:=1) (o:=4) (k:=3) (e:=145) 4 B0_.pc rfl (by decide) rfl rfl ?_;refine loop (ι:=Nat×Int×Int×(List A3_)×(List Int)×(List B0_)×Value×Value×Value) [2,5,12,13] [0] (λ⟨k,work,give_,places,slots,grants,u_places,u_slots,u_grants⟩=>[(14, .int .i64 (k:Int))]) (λ⟨k,work,give_,places,slots,grants,u_places,u_slots,u_grants⟩=>[(1, .box (B2 1) 26 [.int .i64 work, .int .i64 give_, .osl 2, .osl 3, .osl 4]),(2, .arr u_places 5 99 A3_.pc places),(3, .arr u_slots 1 3 i64c slots),(4, .arr u_grants 3 145 B0_.pc grants)]) (λ⟨k,work,give_,places,slots,grants,u_places,u_slots,u_grants⟩=>k<=(cuts 10 s).length/\z=Bx_ ((cuts 10 s).drop k) k work give_ places slots grants/\places.length<=k/\slots.length<=k/\grants.length<=k) (λ⟨k,work,give_,places,slots,grants,u_places,u_slots,u_grants⟩=>(cuts 10 s).length-k) ⟨0,0,0,[],[],[],(.slice none 0 0),(.slice none 0 0),(.slice none 0 0)⟩ ⟨rfl,trivial⟩ ⟨rfl,rfl,rfl,rfl,trivial⟩ ?_ ?_
 . exact⟨Nat.zero_le _,e0,⟨by simp,by simp,by simp⟩⟩
 rintro⟨k,work,give_,places,slots,grants,u_places,u_slots,u_grants⟩ ⟨hp5_1,hp5_2,hp5_3⟩;refine gx V_ 6 ?_;refine cnd rfl (λh6=>?_) (λh6=>?_)
 . have p7:=dt h6;have e8:=C5_ (f:=λzz=>Bx_ zz k work give_ places slots grants) hp5_2 (Gs_ (by omega)) (Bx_.eq_2 _ _ _ _ _ _ _ _);have hc9:=getG (xs:=cuts 10 s) (k:=k) (by omega);have hz_hc9:=hpl.2 (gt (cuts 10 s) k) (List.mem_of_getElem? hc9);have hy_hc9:=hz_hc9.2.1;refine gx V_ 7 ?_;refine q1 (qidx V_ k rfl rfl rfl hc9 rfl rfl rfl rfl) rfl λw10=>gx V_ 8 ?_;refine cV e8 R26_ (T0_ _ (hn:=by assumption)) rfl λr hr11 e13 w12=>?_;have hpw:=plen_w hs (show Kh_ (gt (cuts 10 s) k)=r from by first|assumption|exact Eq.symm (by assumption)) (by assumption);have hpw0:0<r.length->0<(gt r 0).length/\(gt r 0).length<=19:=λq=>hpw _ (Ib_ q);refine gx V_ 11 ?_;refine q1g [25] rfl (λhc=>qidx V_ 0 rfl rfl rfl (getG (by first|omega|(simp only[gOf,bl2] at *;omega))) rfl rfl rfl rfl) ⟨(λhc=>hc),trivial⟩ rfl rfl rfl λ_=>?_;have :=u8r ((gt r 0).getD 0 0);refine gy V_ 1 ?_;refine q1g [27] rfl (λhc=>sidx V_ 0 rfl rfl rfl rfl rfl (by first|omega|(simp only[gOf,bl2] at *;omega))) ⟨(λhc=>hc),trivial⟩ rfl rfl rfl λ_=>?_;refine gy V_ 4 ?_;refine cE e13 (λh14 e15=>?_) (λh14 e20=>?_)
   . refine gy V_ 8 ?_;refine next ⟨(k+1),work,give_,places,slots,grants,(u_places),(u_slots),(u_grants)⟩ rfl rfl ⟨rfl,trivial⟩ ⟨rfl,rfl,rfl,rfl,trivial⟩ ?_ ?_
     . (try simp only[]);omega
     exact⟨by (try simp only[]);omega,e15,⟨(by (try simp only[List.length_append,List.length_cons,List.length_nil]);omega),(by (try simp only[List.length_append,List.length_cons,List.length_nil]);omega),(by (try simp only[List.length_append,List.length_cons,List.length_nil]);omega)⟩⟩
   have h16:=orl h14;have p17:=df h16;have h18:=orr h14;have p19:=df h18;refine gx V_ 5 ?_;refine hinl [] V_ func286 rfl ntmps286 cb286 rfl rfl rfl rfl λHc21 hHc21=>?_;have hc22:=getG (xs:=r) (k:=0) (by omega);have hz_hc22:=hpw (gt r 0) (List.mem_of_getElem? hc22);refine gx V_ 14 ?_;refine q1 (qidx V_ 0 rfl rfl rfl hc22 rfl rfl rfl rfl) rfl λw23=>gx V_ 10 ?_;refine cE e20 (λh24 e26=>?_) (λh24 e141=>?_)
   . have p25:=dt h24;refine gx V_ 14 ?_;refine cN e26 (λp29 e30=>?_) (λp33 e34=>?_)
     . refine gx V_ 7 ?_;refine inlr rfl rfl rfl trivial<|gx V_ 9 ?_;refine cndT rfl (by decide) ?_;refine gmy V_ 17 [] λ_=>?_;subst e30;exact rt3 rfl rfl (Ga_ (A_ (F9_ (A_ (ple rfl) (A_ (ple rfl) (A_ Ar_ (A_ Ar_ (A_ Ar_ A9_)))))) (A_ (ple rfl) (A_ (ple rfl) A9_))))
     refine gx V_ 11 ?_;refine q1 (qidx V_ 0 rfl rfl rfl hc22 rfl rfl rfl rfl) rfl λw35=>gx V_ 10 ?_;refine cD e34 (λp37 e38=>?_) (λp53 e54=>?_)
     . have hc39:=getG (xs:=r) (k:=1) (by omega);have hz_hc39:=hpw (gt r 1) (List.mem_of_getElem? hc39);refine gx V_ 3 ?_;refine q1 (qidx V_ 1 rfl rfl rfl hc39 rfl rfl rfl rfl) rfl λw40=>gx V_ 1 ?_;refine cV e38 R27_ (Ft_ _) rfl λr1 hr41 e43 w42=>gm V_ 17 [] λ_=>?_;refine inlr rfl rfl rfl trivial<|gx V_ 9 ?_;refine cN e43 (λp47 e48=>?_) (λp51 e52=>?_)
       . refine gmy V_ 17 [] λ_=>?_;subst e48;exact rt3 rfl rfl (Ga_ (A_ (F9_ (A_ (ple rfl) (A_ (ple rfl) (A_ Ar_ (A_ Ar_ (A_ Ar_ A9_)))))) (A_ (ple rfl) (A_ (ple rfl) A9_))))
       refine gy V_ 7 ?_;refine next ⟨(k+1),r1.1,give_,places,slots,grants,(u_places),(u_slots),(u_grants)⟩ rfl rfl ⟨rfl,trivial⟩ ⟨rfl,rfl,rfl,rfl,trivial⟩ ?_ ?_
       . (try simp only[]);omega
       exact⟨by (try simp only[]);omega,e52,⟨(by (try simp only[List.length_append,List.length_cons,List.length_nil]);omega),(by (try simp only[List.length_append,List.length_cons,List.length_nil]);omega),(by (try simp only[List.length_append,List.length_cons,List.length_nil]);omega)⟩⟩
     refine gx V_ 6 ?_;refine cD e54 (λp56 e57=>?_) (λp72 e73=>?_)
     . have hc58:=getG (xs:=r) (k:=1) (by omega);have hz_hc58:=hpw (gt r 1) (List.mem_of_getElem? hc58);refine gx V_ 3 ?_;refine q1 (qidx V_ 1 rfl rfl rfl hc58 rfl rfl rfl rfl) rfl λw59=>gx V_ 1 ?_;refine cV e57 R27_ (Ft_ _) rfl λr2 hr60 e62 w61=>gm V_ 17 [] λ_=>?_;refine inlr rfl rfl rfl trivial<|gx V_ 9 ?_;refine cN e62 (λp66 e67=>?_) (λp70 e71=>?_)
       . refine gmy V_ 17 [] λ_=>?_;subst e67;exact rt3 rfl rfl (Ga_ (A_ (F9_ (A_ (ple rfl) (A_ (ple rfl) (A_ Ar_ (A_ Ar_ (A_ Ar_ A9_)))))) (A_ (ple rfl) (A_ (ple rfl) A9_))))
       refine gy V_ 7 ?_;refine next ⟨(k+1),work,r2.1,places,slots,grants,(u_places),(u_slots),(u_grants)⟩ rfl rfl ⟨rfl,trivial⟩ ⟨rfl,rfl,rfl,rfl,trivial⟩ ?_ ?_
       . (try simp only[]);omega
       exact⟨by (try simp only[]);omega,e71,⟨(by (try simp only[List.length_append,List.length_cons,List.length_nil]);omega),(by (try simp only[List.length_append,List.length_cons,List.length_nil]);omega),(by (try simp only[List.length_append,List.length_cons,List.length_nil]);omega)⟩⟩
     refine gx V_ 6 ?_;refine cD e73 (λp75 e76=>?_) (λp92 e93=>?_)
     . refine gx V_ 6 ?_;refine aN [5,6,7,8,9,10] 12 mixd<|gX V_ [0,1,2,3] 8 ?_;have hc77:=getG (xs:=r) (k:=1) (by omega);have hz_hc77:=hpw (gt r 1) (List.mem_of_getElem? hc77);refine vq 4 (qidx V_ 1 rfl rfl rfl hc77 rfl rfl rfl rfl) rfl (by kernel_rfl) rfl λw78=>gX V_ [5] 6 ?_;refine vE 6 rfl (Xw_ (Fh_ (⟨work,give_,places,slots,grants⟩:C_) _) rfl rfl (.agg (.same _ (.same _ (.lend 2 rfl (.lend 3 rfl (.lend 4 rfl .nil))))) (.same _ .nil)) rfl ?_);generalize hr80:Bq_ (⟨work,give_,places,slots,grants⟩:C_) (gt r 1)=r3;intro w79;have e81:=e76.trans (C3_ hr80.symm);refine gX V_ [7,8,9,10,11] 0 ?_;refine vD<|gx V_ 8 ?_;refine ef (bsl 5 i64c [r3.1] V_ rfl rfl rfl rfl rfl (λ_=>rfl) rfl (by decide) (by decide) rfl λu82=>?_);refine ef (app V_ [r3.1] rfl rfl rfl rfl rfl rfl rfl rfl rfl (src_o rfl rfl) (by first|omega|(simp;omega)) rfl λu83=>?_);refine gx V_ 2 ?_;refine ef (Jb_ V_ rfl rfl rfl rfl rfl rfl rfl rfl rfl ?_);refine gx V_ 10 ?_;refine inlr rfl rfl rfl trivial<|gx V_ 9 ?_;refine cN e81 (λp86 e87=>?_) (λp90 e91=>?_)
       . refine gmy V_ 17 [] λ_=>?_;subst e87;exact rt3 rfl rfl (Ga_ (A_ (F9_ (A_ (ple rfl) (A_ (ple rfl) (A_ Ar_ (A_ Ar_ (A_ Ar_ A9_)))))) (A_ (ple rfl) (A_ (ple rfl) A9_))))
       refine gy V_ 7 ?_;refine next ⟨(k+1),work,give_,places,(slots++[r3.1]),grants,(u_places),(u83),(u_grants)⟩ rfl rfl ⟨rfl,trivial⟩ ⟨rfl,rfl,rfl,rfl,trivial⟩ ?_ ?_
       . (try simp only[]);omega
       exact⟨by (try simp only[]);omega,e91,⟨(by (try simp only[List.length_append,List.length_cons,List.length_nil]);omega),(by (try simp only[List.length_append,List.length_cons,List.length_nil]);omega),(by (try simp only[List.length_append,List.length_cons,List.length_nil]);omega)⟩⟩
     refine gx V_ 6 ?_;refine cndT rfl h24 ?_;refine gx V_ 4 ?_;refine hinl [] V_ func303 rfl ntmps303 cb303 rfl rfl rfl rfl λHc94 hHc94=>?_;have hc95:=getG (xs:=r) (k:=2) (by omega);have hz_hc95:=hpw (gt r 2) (List.mem_of_getElem? hc95);refine gx V_ 8 ?_;refine q1 (qidx V_ 2 rfl rfl rfl hc95 rfl rfl rfl rfl) rfl λw96=>gx V_ 1 ?_;refine cV e93 R28_ (I3_ _) rfl λr4 hr97 e99 w98=>gm V_ 15 [5] λB101=>?_;refine cE e99 (λh102 e105=>?_) (λh102 e109=>?_)
     . have h103:=E7_ h102;have p104:=df h103;refine gx V_ 8 ?_;refine inlr rfl rfl rfl trivial<|gx V_ 6 ?_;refine inlr rfl rfl rfl trivial<|gx V_ 9 ?_;refine cndT rfl h102 ?_;refine gmy V_ 17 [] λ_=>?_;subst e105;exact rt3 rfl rfl (Ga_ (A_ (F9_ (A_ (ple rfl) (A_ (ple rfl) (A_ Ar_ (A_ Ar_ (A_ Ar_ A9_)))))) (A_ (ple rfl) (A_ (ple rfl) A9_))))
     have h107:=Eu_ h102;have p108:=dt h107;have hc110:=getG (xs:=r) (k:=3) (by omega);have hz_hc110:=hpw (gt r 3) (List.mem_of_getElem? hc110);refine gx V_ 5 ?_;refine q1 (qidx V_ 3 rfl rfl rfl hc110 rfl rfl rfl rfl) rfl λw111=>gx V_ 1 ?_;refine cV e109 R27_ (Ft_ _) rfl λr5 hr112 e114 w113=>gx V_ 14 ?_;refine cE e114 (λh115 e118=>?_) (λh115 e122=>?_)
     . have h116:=E7_ h115;have p117:=df h116;refine gx V_ 8 ?_;refine inlr rfl rfl rfl trivial<|gx V_ 6 ?_;refine inlr rfl rfl rfl trivial<|gx V_ 9 ?_;refine cndT rfl h115 ?_;refine gmy V_ 17 [] λ_=>?_;subst e118;exact rt3 rfl rfl (Ga_ (A_ (F9_ (A_ (ple rfl) (A_ (ple rfl) (A_ Ar_ (A_ Ar_ (A_ Ar_ A9_)))))) (A_ (ple rfl) (A_ (ple rfl) A9_))))
     have h120:=Eu_ h115;have p121:=dt h120;have hc123:=getG (xs:=r) (k:=4) (by omega);have hz_hc123:=hpw (gt r 4) (List.mem_of_getElem? hc123);refine gx V_ 5 ?_;refine q1 (qidx V_ 4 rfl rfl rfl hc123 rfl rfl rfl rfl) rfl λw124=>gx V_ 1 ?_;refine cV e122 R24_ (Nh_ _ _) rfl λr6 hr125 e127 w126=>gx V_ 8 ?_;refine aN [2,6,7,8,9,10,11] 17 mixd<|gX V_ [0,1,2,3,4,5] 11 ?_;have hc128:=getG (xs:=r) (k:=1) (by omega);have hz_hc128:=hpw (gt r 1) (List.mem_of_getElem? hc128);refine vq 6 (qidx V_ 1 rfl rfl rfl hc128 rfl rfl rfl rfl) rfl (by kernel_rfl) rfl λw129=>gX V_ [7,8,9,10,11] 5 ?_;refine vE 12 rfl (bsl 6 A3_.pc [(⟨(gt r 1),r4.1,r5.1,r6.1⟩:A3_)] V_ rfl rfl rfl rfl rfl (λ_=>rfl) rfl (by decide) (by decide) rfl λu130=>?_);refine vE 13 rfl (app V_ [(⟨(gt r 1),r4.1,r5.1,r6.1⟩:A3_)] rfl rfl rfl rfl rfl rfl rfl rfl rfl (src_o rfl rfl) (by first|omega|(simp;omega)) rfl λu131=>?_);refine gX V_ [14,15] 1 ?_;refine vtp 16 rfl (by kernel_rfl) (by kernel_rfl) (Jb_ V_ rfl rfl rfl rfl rfl rfl rfl rfl rfl ?_);refine vD<|gx V_ 8 ?_;refine inlr rfl rfl rfl trivial<|gx V_ 6 ?_;refine inlr rfl rfl rfl trivial<|gx V_ 9 ?_;refine cN e127 (λp134 e135=>?_) (λp138 e139=>?_)
     . refine gmy V_ 17 [] λ_=>?_;subst e135;exact rt3 rfl rfl (Ga_ (A_ (F9_ (A_ (ple rfl) (A_ (ple rfl) (A_ Ar_ (A_ Ar_ (A_ Ar_ A9_)))))) (A_ (ple rfl) (A_ (ple rfl) A9_))))
     refine gy V_ 7 ?_;refine next ⟨(k+1),work,give_,(places++[(⟨(gt r 1),r4.1,r5.1,r6.1⟩:A3_)]),slots,grants,(u131),(u_slots),(u_grants)⟩ rfl rfl ⟨rfl,trivial⟩ ⟨rfl,rfl,rfl,rfl,trivial⟩ ?_ ?_
     . (try simp only[]);omega
     exact⟨by (try simp only[]);omega,e139,⟨(by (try simp only[List.length_append,List.length_cons,List.length_nil]);omega),(by (try simp only[List.length_append,List.length_cons,List.length_nil]);omega),(by (try simp only[List.length_append,List.length_cons,List.length_nil]);omega)⟩⟩
   have p140:=df h24;refine gx V_ 6 ?_;refine cD e141 (λp143 e144=>?_) (λp254 e255=>?_)
   . refine gx V_ 14 ?_;refine cN e144 (λp147 e148=>?_) (λp151 e152=>?_)
     . refine gx V_ 7 ?_;refine inlr rfl rfl rfl trivial<|gx V_ 9 ?_;refine cndT rfl (by decide) ?_;refine gmy V_ 17 [] λ_=>?_;subst e148;exact rt3 rfl rfl (Ga_ (A_ (F9_ (A_ (ple rfl) (A_ (ple rfl) (A_ Ar_ (A_ Ar_ (A_ Ar_ A9_)))))) (A_ (ple rfl) (A_ (ple rfl) A9_))))
     refine gx V_ 11 ?_;refine q1 (qidx V_ 0 rfl rfl rfl hc22 rfl rfl rfl rfl) rfl λw153=>gx V_ 10 ?_;refine cD e152 (λp155 e156=>?_) (λp171 e172=>?_)
     . have hc157:=getG (xs:=r) (k:=1) (by omega);have hz_hc157:=hpw (gt r 1) (List.mem_of_getElem? hc157);refine gx V_ 3 ?_;refine q1 (qidx V_ 1 rfl rfl rfl hc157 rfl rfl rfl rfl) rfl λw158=>gx V_ 1 ?_;refine cV e156 R27_ (Ft_ _) rfl λr7 hr159 e161 w160=>gm V_ 17 [] λ_=>?_;refine inlr rfl rfl rfl trivial<|gx V_ 9 ?_;refine cN e161 (λp165 e166=>?_) (λp169 e170=>?_)
       . refine gmy V_ 17 [] λ_=>?_;subst e166;exact rt3 rfl rfl (Ga_ (A_ (F9_ (A_ (ple rfl) (A_ (ple rfl) (A_ Ar_ (A_ Ar_ (A_ Ar_ A9_)))))) (A_ (ple rfl) (A_ (ple rfl) A9_))))
       refine gy V_ 7 ?_;refine next ⟨(k+1),r7.1,give_,places,slots,grants,(u_places),(u_slots),(u_grants)⟩ rfl rfl ⟨rfl,trivial⟩ ⟨rfl,rfl,rfl,rfl,trivial⟩ ?_ ?_
       . (try simp only[]);omega
       exact⟨by (try simp only[]);omega,e170,⟨(by (try simp only[List.length_append,List.length_cons,List.length_nil]);omega),(by (try simp only[List.length_append,List.length_cons,List.length_nil]);omega),(by (try simp only[List.length_append,List.length_cons,List.length_nil]);omega)⟩⟩
     refine gx V_ 6 ?_;refine cD e172 (λp174 e175=>?_) (λp190 e191=>?_)
     . have hc176:=getG (xs:=r) (k:=1) (by omega);have hz_hc176:=hpw (gt r 1) (List.mem_of_getElem? hc176);refine gx V_ 3 ?_;refine q1 (qidx V_ 1 rfl rfl rfl hc176 rfl rfl rfl rfl) rfl λw177=>gx V_ 1 ?_;refine cV e175 R27_ (Ft_ _) rfl λr8 hr178 e180 w179=>gm V_ 17 [] λ_=>?_;refine inlr rfl rfl rfl trivial<|gx V_ 9 ?_;refine cN e180 (λp184 e185=>?_) (λp188 e189=>?_)
       . refine gmy V_ 17 [] λ_=>?_;subst e185;exact rt3 rfl rfl (Ga_ (A_ (F9_ (A_ (ple rfl) (A_ (ple rfl) (A_ Ar_ (A_ Ar_ (A_ Ar_ A9_)))))) (A_ (ple rfl) (A_ (ple rfl) A9_))))
       refine gy V_ 7 ?_;refine next ⟨(k+1),work,r8.1,places,slots,grants,(u_places),(u_slots),(u_grants)⟩ rfl rfl ⟨rfl,trivial⟩ ⟨rfl,rfl,rfl,rfl,trivial⟩ ?_ ?_
       . (try simp only[]);omega
       exact⟨by (try simp only[]);omega,e189,⟨(by (try simp only[List.length_append,List.length_cons,List.length_nil]);omega),(by (try simp only[List.length_append,List.length_cons,List.length_nil]);omega),(by (try simp only[List.length_append,List.length_cons,List.length_nil]);omega)⟩⟩
     refine gx V_ 6 ?_;refine cD e191 (λp193 e194=>?_) (λp210 e211=>?_)
     . refine gx V_ 6 ?_;refine aN [5,6,7,8,9,10] 12 mixd<|gX V_ [0,1,2,3] 8 ?_;have hc195:=getG (xs:=r) (k:=1) (by omega);have hz_hc195:=hpw (gt r 1) (List.mem_of_getElem? hc195);refine vq 4 (qidx V_ 1 rfl rfl rfl hc195 rfl rfl rfl rfl) rfl (by kernel_rfl) rfl λw196=>gX V_ [5] 6 ?_;refine vE 6 rfl (Xw_ (Fh_ (⟨work,give_,places,slots,grants⟩:C_) _) rfl rfl (.agg (.same _ (.same _ (.lend 2 rfl (.lend 3 rfl (.lend 4 rfl .nil))))) (.same _ .nil)) rfl ?_);generalize hr198:Bq_ (⟨work,give_,places,slots,grants⟩:C_) (gt r 1)=r9;intro w197;have e199:=e194.trans (C3_ hr198.symm);refine gX V_ [7,8,9,10,11] 0 ?_;refine vD<|gx V_ 8 ?_;refine ef (bsl 5 i64c [r9.1] V_ rfl rfl rfl rfl rfl (λ_=>rfl) rfl (by decide) (by decide) rfl λu200=>?_);refine ef (app V_ [r9.1] rfl rfl rfl rfl rfl rfl rfl rfl rfl (src_o rfl rfl) (by first|omega|(simp;omega)) rfl λu201=>?_);refine gx V_ 2 ?_;refine ef (Jb_ V_ rfl rfl rfl rfl rfl rfl rfl rfl rfl ?_);refine gx V_ 10 ?_;refine inlr rfl rfl rfl trivial<|gx V_ 9 ?_;refine cN e199 (λp204 e205=>?_) (λp208 e209=>?_)
       . refine gmy V_ 17 [] λ_=>?_;subst e205;exact rt3 rfl rfl (Ga_ (A_ (F9_ (A_ (ple rfl) (A_ (ple rfl) (A_ Ar_ (A_ Ar_ (A_ Ar_ A9_)))))) (A_ (ple rfl) (A_ (ple rfl) A9_))))
       refine gy V_ 7 ?_;refine next ⟨(k+1),work,give_,places,(slots++[r9.1]),grants,(u_places),(u201),(u_grants)⟩ rfl rfl ⟨rfl,trivial⟩ ⟨rfl,rfl,rfl,rfl,trivial⟩ ?_ ?_
       . (try simp only[]);omega
       exact⟨by (try simp only[]);omega,e209,⟨(by (try simp only[List.length_append,List.length_cons,List.length_nil]);omega),(by (try simp only[List.length_append,List.length_cons,List.length_nil]);omega),(by (try simp only[List.length_append,List.length_cons,List.length_nil]);omega)⟩⟩
     refine gx V_ 6 ?_;refine cndF rfl h24 ?_;refine gx V_ 4 ?_;refine hinl [] V_ func304 rfl ntmps304 cb304 rfl rfl rfl rfl λHc212 hHc212=>?_;refine gx V_ 6 ?_;refine aN [5,6,7,8,9,10] 12 mixd<|gX V_ [0,1,2,3] 8 ?_;have hc213:=getG (xs:=r) (k:=1) (by omega);have hz_hc213:=hpw (gt r 1) (List.mem_of_getElem? hc213);refine vq 4 (qidx V_ 1 rfl rfl rfl hc213 rfl rfl rfl rfl) rfl (by kernel_rfl) rfl λw214=>gX V_ [5] 6 ?_;refine vE 6 rfl (Xw_ (Fh_ (⟨work,give_,places,slots,grants⟩:C_) _) rfl rfl (.agg (.same _ (.same _ (.lend 2 rfl (.lend 3 rfl (.lend 4 rfl .nil))))) (.same _ .nil)) rfl ?_);generalize hr216:Bq_ (⟨work,give_,places,slots,grants⟩:C_) (gt r 1)=r10;intro w215;have e217:=e211.trans (C3_ hr216.symm);refine gX V_ [7,8,9,10,11] 0 ?_;refine vD<|gx V_ 8 ?_;refine cE e217 (λh218 e221=>?_) (λh218 e225=>?_)
     . have h219:=E7_ h218;have p220:=df h219;refine gx V_ 8 ?_;refine inlr rfl rfl rfl trivial<|gx V_ 6 ?_;refine inlr rfl rfl rfl trivial<|gx V_ 9 ?_;refine cndT rfl h218 ?_;refine gmy V_ 17 [] λ_=>?_;subst e221;exact rt3 rfl rfl (Ga_ (A_ (F9_ (A_ (ple rfl) (A_ (ple rfl) (A_ Ar_ (A_ Ar_ (A_ Ar_ A9_)))))) (A_ (ple rfl) (A_ (ple rfl) A9_))))
     have h223:=Eu_ h218;have p224:=dt h223;refine gx V_ 3 ?_;refine aN [5,6,7,8,9,10] 12 mixd<|gX V_ [0,1,2,3] 8 ?_;have hc226:=getG (xs:=r) (k:=2) (by omega);have hz_hc226:=hpw (gt r 2) (List.mem_of_getElem? hc226);refine vq 4 (qidx V_ 2 rfl rfl rfl hc226 rfl rfl rfl rfl) rfl (by kernel_rfl) rfl λw227=>gX V_ [5] 6 ?_;refine vE 6 rfl (Xw_ (Fh_ (⟨work,give_,places,slots,grants⟩:C_) _) rfl rfl (.agg (.same _ (.same _ (.lend 2 rfl (.lend 3 rfl (.lend 4 rfl .nil))))) (.same _ .nil)) rfl ?_);generalize hr229:Bq_ (⟨work,give_,places,slots,grants⟩:C_) (gt r 2)=r11;intro w228;have e230:=e225.trans (C3_ hr229.symm);refine gX V_ [7,8,9,10,11] 0 ?_;refine vD<|gx V_ 8 ?_;refine cE e230 (λh231 e234=>?_) (λh231 e238=>?_)
     . have h232:=E7_ h231;have p233:=df h232;refine gx V_ 8 ?_;refine inlr rfl rfl rfl trivial<|gx V_ 6 ?_;refine inlr rfl rfl rfl trivial<|gx V_ 9 ?_;refine cndT rfl h231 ?_;refine gmy V_ 17 [] λ_=>?_;subst e234;exact rt3 rfl rfl (Ga_ (A_ (F9_ (A_ (ple rfl) (A_ (ple rfl) (A_ Ar_ (A_ Ar_ (A_ Ar_ A9_)))))) (A_ (ple rfl) (A_ (ple rfl) A9_))))
     have h236:=Eu_ h231;have p237:=dt h236;have hc239:=getG (xs:=r) (k:=3) (by omega);have hz_hc239:=hpw (gt r 3) (List.mem_of_getElem? hc239);refine gx V_ 5 ?_;refine q1 (qidx V_ 3 rfl rfl rfl hc239 rfl rfl rfl rfl) rfl λw240=>gx V_ 1 ?_;refine cV e238 R27_ (Ft_ _) rfl λr12 hr241 e243 w242=>gx V_ 18 ?_;refine ef (bsl 5 B0_.pc [(⟨r10.1,r11.1,r12.1⟩:B0_)] V_ rfl rfl rfl rfl rfl (λ_=>rfl) rfl (by decide) (by decide) rfl λu244=>?_);refine ef (app V_ [(⟨r10.1,r11.1,r12.1⟩:B0_)] rfl rfl rfl rfl rfl rfl rfl rfl rfl (src_o rfl rfl) (by first|omega|(simp;omega)) rfl λu245=>?_);refine gx V_ 2 ?_;refine ef (Jb_ V_ rfl rfl rfl rfl rfl rfl rfl rfl rfl ?_);refine gx V_ 9 ?_;refine inlr rfl rfl rfl trivial<|gx V_ 6 ?_;refine inlr rfl rfl rfl trivial<|gx V_ 9 ?_;refine cN e243 (λp248 e249=>?_) (λp252 e253=>?_)
     . refine gmy V_ 17 [] λ_=>?_;subst e249;exact rt3 rfl rfl (Ga_ (A_ (F9_ (A_ (ple rfl) (A_ (ple rfl) (A_ Ar_ (A_ Ar_ (A_ Ar_ A9_)))))) (A_ (ple rfl) (A_ (ple rfl) A9_))))
     refine gy V_ 7 ?_;refine next ⟨(k+1),work,give_,places,slots,(grants++[(⟨r10.1,r11.1,r12.1⟩:B0_)]),(u_places),(u_slots),(u245)⟩ rfl rfl ⟨rfl,trivial⟩ ⟨rfl,rfl,rfl,rfl,trivial⟩ ?_ ?_
     . (try simp only[]);omega
     exact⟨by (try simp only[]);omega,e253,⟨(by (try simp only[List.length_append,List.length_cons,List.length_nil]);omega),(by (try simp only[List.length_append,List.length_cons,List.length_nil]);omega),(by (try simp only[List.length_append,List.length_cons,List.length_nil]);omega)⟩⟩
   refine gx V_ 7 ?_;refine cE e255 (λh256 e258=>?_) (λh256 e283=>?_)
   . have p257:=dt h256;refine gx V_ 2 ?_;refine cndT rfl h256 ?_;refine gx V_ 12 ?_;refine cN e258 (λp261 e262=>?_) (λp265 e266=>?_)
     . refine gx V_ 7 ?_;refine inlr rfl rfl rfl trivial<|gx V_ 9 ?_;refine cndT rfl (by decide) ?_;refine gmy V_ 17 [] λ_=>?_;subst e262;exact rt3 rfl rfl (Ga_ (A_ (F9_ (A_ (ple rfl) (A_ (ple rfl) (A_ Ar_ (A_ Ar_ (A_ Ar_ A9_)))))) (A_ (ple rfl) (A_ (ple rfl) A9_))))
     refine gx V_ 11 ?_;refine q1 (qidx V_ 0 rfl rfl rfl hc22 rfl rfl rfl rfl) rfl λw267=>gx V_ 10 ?_;refine cndT rfl h256 ?_;have hc268:=getG (xs:=r) (k:=1) (by omega);have hz_hc268:=hpw (gt r 1) (List.mem_of_getElem? hc268);refine gx V_ 3 ?_;refine q1 (qidx V_ 1 rfl rfl rfl hc268 rfl rfl rfl rfl) rfl λw269=>gx V_ 1 ?_;refine cV e266 R27_ (Ft_ _) rfl λr13 hr270 e272 w271=>gm V_ 17 [] λ_=>?_;refine inlr rfl rfl rfl trivial<|gx V_ 9 ?_;refine cN e272 (λp276 e277=>?_) (λp280 e281=>?_)
     . refine gmy V_ 17 [] λ_=>?_;subst e277;exact rt3 rfl rfl (Ga_ (A_ (F9_ (A_ (ple rfl) (A_ (ple rfl) (A_ Ar_ (A_ Ar_ (A_ Ar_ A9_)))))) (A_ (ple rfl) (A_ (ple rfl) A9_))))
     refine gy V_ 7 ?_;refine next ⟨(k+1),r13.1,give_,places,slots,grants,(u_places),(u_slots),(u_grants)⟩ rfl rfl ⟨rfl,trivial⟩ ⟨rfl,rfl,rfl,rfl,trivial⟩ ?_ ?_
     . (try simp only[]);omega
     exact⟨by (try simp only[]);omega,e281,⟨(by (try simp only[List.length_append,List.length_cons,List.length_nil]);omega),(by (try simp only[List.length_append,List.length_cons,List.length_nil]);omega),(by (try simp only[List.length_append,List.length_cons,List.length_nil]);omega)⟩⟩
   have p282:=df h256;refine gx V_ 6 ?_;refine cE e283 (λh284 e286=>?_) (λh284 e311=>?_)
   . have p285:=dt h284;refine gx V_ 2 ?_;refine cndT rfl h284 ?_;refine gx V_ 12 ?_;refine cN e286 (λp289 e290=>?_) (λp293 e294=>?_)
     . refine gx V_ 7 ?_;refine inlr rfl rfl rfl trivial<|gx V_ 9 ?_;refine cndT rfl (by decide) ?_;refine gmy V_ 17 [] λ_=>?_;subst e290;exact rt3 rfl rfl (Ga_ (A_ (F9_ (A_ (ple rfl) (A_ (ple rfl) (A_ Ar_ (A_ Ar_ (A_ Ar_ A9_)))))) (A_ (ple rfl) (A_ (ple rfl) A9_))))
     refine gx V_ 11 ?_;refine q1 (qidx V_ 0 rfl rfl rfl hc22 rfl rfl rfl rfl) rfl λw295=>gx V_ 10 ?_;refine cndF rfl h256 ?_;refine gx V_ 6 ?_;refine cndT rfl h284 ?_;have hc296:=getG (xs:=r) (k:=1) (by omega);have hz_hc296:=hpw (gt r 1) (List.mem_of_getElem? hc296);refine gx V_ 3 ?_;refine q1 (qidx V_ 1 rfl rfl rfl hc296 rfl rfl rfl rfl) rfl λw297=>gx V_ 1 ?_;refine cV e294 R27_ (Ft_ _) rfl λr14 hr298 e300 w299=>gm V_ 17 [] λ_=>?_;refine inlr rfl rfl rfl trivial<|gx V_ 9 ?_;refine cN e300 (λp304 e305=>?_) (λp308 e309=>?_)
     . refine gmy V_ 17 [] λ_=>?_;subst e305;exact rt3 rfl rfl (Ga_ (A_ (F9_ (A_ (ple rfl) (A_ (ple rfl) (A_ Ar_ (A_ Ar_ (A_ Ar_ A9_)))))) (A_ (ple rfl) (A_ (ple rfl) A9_))))
     refine gy V_ 7 ?_;refine next ⟨(k+1),work,r14.1,places,slots,grants,(u_places),(u_slots),(u_grants)⟩ rfl rfl ⟨rfl,trivial⟩ ⟨rfl,rfl,rfl,rfl,trivial⟩ ?_ ?_
     . (try simp only[]);omega
     exact⟨by (try simp only[]);omega,e309,⟨(by (try simp only[List.length_append,List.length_cons,List.length_nil]);omega),(by (try simp only[List.length_append,List.length_cons,List.length_nil]);omega),(by (try simp only[List.length_append,List.length_cons,List.length_nil]);omega)⟩⟩
   have p310:=df h284;refine gx V_ 5 ?_;refine cE e311 (λh312 e314=>?_) (λh312 e340=>?_)
   . have p313:=dt h312;refine gx V_ 12 ?_;refine cN e314 (λp317 e318=>?_) (λp321 e322=>?_)
     . refine gx V_ 7 ?_;refine inlr rfl rfl rfl trivial<|gx V_ 9 ?_;refine cndT rfl (by decide) ?_;refine gmy V_ 17 [] λ_=>?_;subst e318;exact rt3 rfl rfl (Ga_ (A_ (F9_ (A_ (ple rfl) (A_ (ple rfl) (A_ Ar_ (A_ Ar_ (A_ Ar_ A9_)))))) (A_ (ple rfl) (A_ (ple rfl) A9_))))
     refine gx V_ 11 ?_;refine q1 (qidx V_ 0 rfl rfl rfl hc22 rfl rfl rfl rfl) rfl λw323=>gx V_ 10 ?_;refine cndF rfl h256 ?_;refine gx V_ 6 ?_;refine cndF rfl h284 ?_;refine gx V_ 6 ?_;refine cndT rfl h312 ?_;refine gx V_ 6 ?_;refine aN [5,6,7,8,9,10] 12 mixd<|gX V_ [0,1,2,3] 8 ?_;have hc324:=getG (xs:=r) (k:=1) (by omega);have hz_hc324:=hpw (gt r 1) (List.mem_of_getElem? hc324);refine vq 4 (qidx V_ 1 rfl rfl rfl hc324 rfl rfl rfl rfl) rfl (by kernel_rfl) rfl λw325=>gX V_ [5] 6 ?_;refine vE 6 rfl (Xw_ (Fh_ (⟨work,give_,places,slots,grants⟩:C_) _) rfl rfl (.agg (.same _ (.same _ (.lend 2 rfl (.lend 3 rfl (.lend 4 rfl .nil))))) (.same _ .nil)) rfl ?_);generalize hr327:Bq_ (⟨work,give_,places,slots,grants⟩:C_) (gt r 1)=r15;intro w326;have e328:=e322.trans (C3_ hr327.symm);refine gX V_ [7,8,9,10,11] 0 ?_;refine vD<|gx V_ 8 ?_;refine ef (bsl 5 i64c [r15.1] V_ rfl rfl rfl rfl rfl (λ_=>rfl) rfl (by decide) (by decide) rfl λu329=>?_);refine ef (app V_ [r15.1] rfl rfl rfl rfl rfl rfl rfl rfl rfl (src_o rfl rfl) (by first|omega|(simp;omega)) rfl λu330=>?_);refine gx V_ 2 ?_;refine ef (Jb_ V_ rfl rfl rfl rfl rfl rfl rfl rfl rfl ?_);refine gx V_ 10 ?_;refine inlr rfl rfl rfl trivial<|gx V_ 9 ?_;refine cN e328 (λp333 e334=>?_) (λp337 e338=>?_)
     . refine gmy V_ 17 [] λ_=>?_;subst e334;exact rt3 rfl rfl (Ga_ (A_ (F9_ (A_ (ple rfl) (A_ (ple rfl) (A_ Ar_ (A_ Ar_ (A_ Ar_ A9_)))))) (A_ (ple rfl) (A_ (ple rfl) A9_))))
     refine gy V_ 7 ?_;refine next ⟨(k+1),work,give_,places,(slots++[r15.1]),grants,(u_places),(u330),(u_grants)⟩ rfl rfl ⟨rfl,trivial⟩ ⟨rfl,rfl,rfl,rfl,trivial⟩ ?_ ?_
     . (try simp only[]);omega
     exact⟨by (try simp only[]);omega,e338,⟨(by (try simp only[List.length_append,List.length_cons,List.length_nil]);omega),(by (try simp only[List.length_append,List.length_cons,List.length_nil]);omega),(by (try simp only[List.length_append,List.length_cons,List.length_nil]);omega)⟩⟩
   have p339:=df h312;refine gx V_ 8 ?_;refine inlr rfl rfl rfl trivial<|gx V_ 9 ?_;refine cndT rfl (by decide) ?_;refine gmy V_ 17 [] λ_=>?_;subst e340;exact rt3 rfl rfl (Ga_ (A_ (F9_ (A_ (ple rfl) (A_ (ple rfl) (A_ Ar_ (A_ Ar_ (A_ Ar_ A9_)))))) (A_ (ple rfl) (A_ (ple rfl) A9_))))
 have p342:=df h6;have e343:=C5_ (f:=λzz=>Bx_ zz k work give_ places slots grants) hp5_2 (Gy_ (by omega)) (Bx_.eq_1 _ _ _ _ _ _);refine gx V_ 8 ?_;refine give 2 rfl<|give 3 rfl ?_;refine give 4 rfl<|gx V_ 1 ?_;refine cV e343 R0_ (Nk_ (⟨work,give_,places,slots,grants⟩:C_)) rfl λr16 hr344 e346 w345=>gx V_ 9 ?_;refine cN e346 (λp349 e350=>?_) (λp353 e354=>?_)
 . refine gm V_ 11 [] λ_=>?_;subst e350;exact rt3 rfl rfl (Ga_ (A_ (F9_ (A_ (ple rfl) (A_ (ple rfl) (A_ Ar_ (A_ Ar_ (A_ Ar_ A9_)))))) (A_ (ple rfl) (A_ (ple rfl) A9_))))
 refine gm V_ 11 [] λ_=>?_;subst e354;exact qr3
abbrev R29_:(C_×Int×Int)->PV:=λr=> .tup [.agg (C_.pc r.1), .int .i64 r.2.1, .int .i64 r.2.2]
abbrev R30_:(D5_×Bool)->PV:=λr=> .tup [.agg (D5_.pc r.1), .bool r.2]
abbrev R31_:(Bc_×Int)->PV:=λr=> .tup [.agg (Bc_.pc r.1), .int .i64 r.2]
abbrev R32_:(Int×Mail×Bool)->PV:=λr=> .tup [.int .u64 r.1, .agg (Mail.pc r.2.1), .bool r.2.2]
theorem Ye_:Fn prog gb 142 [] (.bool (S2_)):=by
 refine kG func142 ntmps142 λw N H hG=>?_;have e0:=S2_.eq_1;refine kA 7 ?_;refine cV e0 R28_ (I3_ _) rfl λr hr1 e3 w2=>kB 10 [0] λB5=>?_;refine cV e3 R28_ (I3_ _) rfl λr1 hr6 e8 w7=>kB 10 [1] λB10=>?_;refine cV e8 R28_ (I3_ _) rfl λr2 hr11 e13 w12=>kB 10 [2] λB15=>?_;refine call S1_ rfl rfl λw16=>kA 1 ?_;refine ungd rfl rfl<|kA 1 ?_;refine ungd rfl rfl<|kC 13 ?_;refine callg rfl (λhc=>(Hw_ _ _)) rfl ⟨(λhc=>hc),(λhc=>hc),trivial⟩ rfl rfl λ_=>kC 4 ?_;refine callg rfl (λhc=>(Hw_ _ _)) rfl ⟨(λhc=>hc),(λhc=>hc),trivial⟩ rfl rfl λ_=>kC 5 ?_;refine callg rfl (λhc=>(Hw_ _ _)) rfl ⟨(λhc=>hc),(λhc=>hc),trivial⟩ rfl rfl λ_=>kC 6 ?_;exact rt1 rfl rfl (Am_ (λr:Bool=> .bool r) e13 (ple rfl))
theorem Rd_:Fn prog gb 68 [] (.bool (Mh_)):=by
 refine kG func68 ntmps68 λw N H hG=>?_;have e0:=Mh_.eq_1;refine kA 7 ?_;refine call Ye_ rfl rfl λw1=>kA 4 ?_;exact rt1 rfl rfl (Am_ (λr:Bool=> .bool r) e0 (ple rfl))
theorem Yh_:Fn prog gb 218 [] (.bool (S5_)):=by
 refine kG func218 ntmps218 λw N H hG=>?_;have e0:=S5_.eq_1;refine kA 7 ?_;refine cV e0 R29_ (Ty_ _ (hs:=by exact plen05)) rfl λr hr1 e3 w2=>kB 12 [0] λB5=>?_;refine call Rd_ rfl rfl λw6=>kA 1 ?_;refine callg rfl (λhc=>Ns_) rfl trivial rfl rfl λ_=>kC 23 ?_;refine q1g [34] rfl (λhc=>qidx G_ 0 rfl rfl rfl (getG (by first|omega|(simp only[gOf,bl2] at *;omega))) rfl rfl rfl rfl) ⟨(λhc=>hc),trivial⟩ rfl rfl rfl λ_=>?_;refine kC 8 ?_;exact rt1 rfl rfl (Am_ (λr:Bool=> .bool r) e3 (ple rfl))
theorem Yf_:Fn prog gb 156 [] (.bool (S3_)):=by
 refine kG func156 ntmps156 λw N H hG=>?_;have e0:=S3_.eq_1;refine kA 7 ?_;refine call Yh_ rfl rfl λw1=>kA 4 ?_;exact rt1 rfl rfl (Am_ (λr:Bool=> .bool r) e0 (ple rfl))
theorem Yl_:Fn prog gb 289 [] (.bool (S8_)):=by
 refine kG func289 ntmps289 λw N H hG=>?_;have e0:=S8_.eq_1;refine kA 9 ?_;refine cV e0 R2_ (Kl_ (⟨[]⟩:Ae_) (⟨3,[97],[],[],[],0,0⟩:Mail) (hh:=by first|omega|decide)) rfl λr hr1 e3 w2=>?_;have hA3:=Wz_ (l:=(⟨[]⟩:Ae_)) (m:=(⟨3,[97],[],[],[],0,0⟩:Mail)) (by first|assumption|exact M5_) (by decide)
 (try rw[<- hr1] at hA3)
 refine kB 12 [0] λB6=>?_;refine cV e3 R2_ (Kl_ _ (⟨5,[97],[],[],[],0,0⟩:Mail) (hh:=by first|omega|decide)) rfl λr1 hr7 e9 w8=>?_;have hA9:=Wz_ (l:=r.1) (m:=(⟨5,[97],[],[],[],0,0⟩:Mail)) (by first|assumption|exact M5_) (by decide)
 (try rw[<- hr7] at hA9)
 refine kB 10 [] λ_=>?_;refine cV e9 R7_ (Jz_ _) rfl λr2 hr12 e14 w13=>?_
 (try have hA14:=Rw_ (l:=r1.1) (by assumption);(try rw[<- hr12] at hA14);obtain⟨hA14_0,hA14_1⟩:=hA14)
 refine kB 13 [1] λB17=>?_;refine cV e14 R7_ (Jz_ _) rfl λr3 hr18 e20 w19=>?_
 (try have hA20:=Rw_ (l:=r2.1) (by assumption);(try rw[<- hr18] at hA20);obtain⟨hA20_0,hA20_1⟩:=hA20)
 refine kB 13 [2] λB23=>?_;refine cV e20 R2_ (Mj_ _ _) rfl λr4 hr24 e26 w25=>?_;have hA26:=W0_ (l:=r3.1) (id:=3) (by assumption)
 (try rw[<- hr24] at hA26)
 refine kB 10 [] λ_=>?_;refine cV e26 R4_ (Lt_ _) rfl λr5 hr29 e31 w30=>kB 10 [3] λB33=>?_;refine call S6_ rfl rfl λw34=>kA 1 ?_;refine ungd rfl rfl<|kA 1 ?_;refine ungd rfl rfl<|kC 40 ?_;exact rt1 rfl rfl (Am_ (λr:Bool=> .bool r) e31 (ple rfl))
theorem Yk_:Fn prog gb 260 [] (.bool (S7_)):=by
 refine kG func260 ntmps260 λw N H hG=>?_;have e0:=S7_.eq_1;refine kA 7 ?_;refine call Yl_ rfl rfl λw1=>kA 4 ?_;exact rt1 rfl rfl (Am_ (λr:Bool=> .bool r) e0 (ple rfl))
theorem Yn_:Fn prog gb 221 [] (.bool (Px_)):=by
 refine kG func221 ntmps221 λw N H hG=>?_;have e0:=Px_.eq_1;refine kB 17 [0] λB2=>?_;refine loop (ι:=Nat×Nat×B7_) [0,1] [] (λ⟨f,v,x⟩=>[(7, .int .i64 (v:Int))]) (λ⟨f,v,x⟩=>[(0, .box (B2 0) 46 (B7_.pc x))]) (λ⟨f,v,x⟩=>40-v<f/\Px_=Lq_ f v x/\x.kept.length<=32) (λ⟨f,v,x⟩=>f) ⟨(40-0+1),0,(⟨0,[]⟩:B7_)⟩ ⟨rfl,trivial⟩ ⟨rfl,trivial⟩ ?_ ?_
 . exact⟨Nat.lt_succ_self _,e0,by decide⟩
 rintro⟨f,v,x⟩ ⟨hp3_1,hp3_2,hp3_3⟩;obtain⟨f1,rfl⟩:∃ q,f=q+1:=⟨f-1,by omega⟩;have e_f1:=hp3_2.trans (Lq_.eq_2 _ _ _);refine kA 6 ?_;refine cD e_f1 (λp5 e6=>?_) (λp12 e13=>?_)
 . refine kA 15 ?_;refine cV e6 R9_ (Jo_ _ (⟨0,(IntKind.wrap .u8 (v:Int)),[]⟩:D5_)) rfl λr hr7 e9 w8=>?_;have hA9:=W8_ (n:=x) (x:=(⟨0,(IntKind.wrap .u8 (v:Int)),[]⟩:D5_)) (by assumption)
   (try rw[<- hr7] at hA9)
   refine kD 11 [] λ_=>?_;refine next ⟨f1,(v+1),r.1⟩ rfl rfl ⟨rfl,trivial⟩ ⟨rfl,trivial⟩ ?_ ?_
   . (try simp only[]);omega
   exact⟨by (try simp only[]);omega,e9,by assumption⟩
 refine kA 8 ?_;refine cV e13 R30_ (Ly_ _ _) rfl λr1 hr14 e16 w15=>kB 11 [1] λB18=>?_;refine cV e16 R30_ (Ly_ _ _) rfl λr2 hr19 e21 w20=>kB 10 [2] λB23=>?_;refine call S1_ rfl rfl λw24=>kA 1 ?_;refine ungd rfl rfl<|kC 13 ?_;refine callg rfl (λhc=>(Kt_ _)) rfl ⟨(λhc=>hc),trivial⟩ rfl rfl λ_=>kC 6 ?_;exact rt1 rfl rfl (Am_ (λr:Bool=> .bool r) e21 (ple rfl))
theorem Ym_:Fn prog gb 159 [] (.bool (S9_)):=by
 refine kG func159 ntmps159 λw N H hG=>?_;have e0:=S9_.eq_1;refine kA 7 ?_;refine call Yn_ rfl rfl λw1=>kA 4 ?_;exact rt1 rfl rfl (Am_ (λr:Bool=> .bool r) e0 (ple rfl))
theorem Yp_:Fn prog gb 290 [] (.bool (Py_)):=by
 refine kG func290 ntmps290 λw N H hG=>?_;have e0:=Py_.eq_1;refine kB 17 [0] λB2=>?_;refine loop (ι:=Nat×Nat×Bc_) [0,1] [] (λ⟨f,v,x⟩=>[(8, .int .i64 (v:Int))]) (λ⟨f,v,x⟩=>[(0, .box (B2 0) 40 (Bc_.pc x))]) (λ⟨f,v,x⟩=>20-v<f/\Py_=Lr_ f v x/\RiOk x/\(x.total=0\/0<x.kept.length)) (λ⟨f,v,x⟩=>f) ⟨(20-0+1),0,(⟨0,[]⟩:Bc_)⟩ ⟨rfl,trivial⟩ ⟨rfl,trivial⟩ ?_ ?_
 . exact⟨Nat.lt_succ_self _,e0,⟨Sb_, .inl rfl⟩⟩
 rintro⟨f,v,x⟩ ⟨hp3_1,hp3_2,hp3_3⟩;obtain⟨hi1,hi2⟩:=hp3_3;obtain⟨f1,rfl⟩:∃ q,f=q+1:=⟨f-1,by omega⟩;have e_f1:=hp3_2.trans (Lr_.eq_2 _ _ _);refine kA 6 ?_;refine cD e_f1 (λp5 e6=>?_) (λp13 e14=>?_)
 . refine kA 7 ?_;refine cV e6 R31_ (I4_ _ (⟨0,[97],[],[],[],0,0⟩:Mail) (hh:=by first|omega|decide)) rfl λr hr7 e9 w8=>?_;have hA9:=rput_ok (x:=x) (m:=(⟨0,[97],[],[],[],0,0⟩:Mail)) (by assumption)
   (try rw[<- hr7] at hA9)
   have hA10:=rput_ne (x:=x) (m:=(⟨0,[97],[],[],[],0,0⟩:Mail)) (by assumption)
   (try rw[<- hr7] at hA10)
   refine kD 11 [] λ_=>?_;refine next ⟨f1,(v+1),r.1⟩ rfl rfl ⟨rfl,trivial⟩ ⟨rfl,trivial⟩ ?_ ?_
   . (try simp only[]);omega
   exact⟨by (try simp only[]);omega,e9,⟨by assumption,by assumption⟩⟩
 refine kA 8 ?_;refine cV e14 R32_ (L1_ _ _) rfl λr1 hr15 e17 w16=>kB 13 [1] λB19=>?_;refine cV e17 R32_ (L1_ _ _) rfl λr2 hr20 e22 w21=>kB 12 [2] λB24=>?_;refine call S6_ rfl rfl λw25=>kA 1 ?_;refine ungd rfl rfl<|kA 1 ?_;refine ungd rfl rfl<|kC 13 ?_;exact rt1 rfl rfl (Am_ (λr:Bool=> .bool r) e22 (ple rfl))
theorem Yo_:Fn prog gb 261 [] (.bool (Ta_)):=by
 refine kG func261 ntmps261 λw N H hG=>?_;have e0:=Ta_.eq_1;refine kA 7 ?_;refine call Yp_ rfl rfl λw1=>kA 4 ?_;exact rt1 rfl rfl (Am_ (λr:Bool=> .bool r) e0 (ple rfl))
theorem Yr_:Fn prog gb 219 [] (.bool (Tc_)):=by
 refine kG func219 ntmps219 λw N H hG=>?_;have e0:=Tc_.eq_1;refine kA 7 ?_;refine cV e0 R6_ (N6_ _ _) rfl λr hr1 e3 w2=>?_;have hA3:=knew_ok 7 100 (by decide)
 (try rw[<- hr1] at hA3)
 refine kA 1 ?_;refine cV e3 R11_ (Jc_ _ (⟨[113],3,0,[]⟩:Q_)) rfl λr1 hr5 e7 w6=>?_;have hA7:=M2_ (q:=(⟨[113],3,0,[]⟩:Q_)) (s:=r) (by first|assumption|exact StOk.stk (by assumption))
 (try rw[<- hr5] at hA7)
 refine kB 12 [0] λB10=>?_;refine cV e7 R17_ (L4_ _ _ (⟨0,[97],[],[],[],0,0⟩:Mail) (hh:=by first|omega|decide)) rfl λr2 hr11 e13 w12=>?_
 (try have hA13:=Wv_ (s:=r1.1) (n:=[113]) (m:=(⟨0,[97],[],[],[],0,0⟩:Mail)) (by first|assumption|exact StOk.stk (by assumption)) (by (try simp only[]);omega);(try rw[<- hr11] at hA13);obtain⟨hA13_0,hA13_1,hA13_2⟩:=hA13)
 refine kB 15 [1,2] λB16=>?_;refine call Ns_ rfl rfl λw18=>kA 1 ?_;refine ungd rfl rfl<|call Yk_ rfl rfl λw19=>kA 2 ?_;refine callg rfl (λhc=>Yo_) rfl trivial rfl rfl λ_=>kC 17 ?_;exact rt1 rfl rfl (Am_ (λr:Bool=> .bool r) e13 (ple rfl))
theorem Yq_:Fn prog gb 157 [] (.bool (Tb_)):=by
 refine kG func157 ntmps157 λw N H hG=>?_;have e0:=Tb_.eq_1;refine kA 7 ?_;refine call Yr_ rfl rfl λw1=>kA 4 ?_;exact rt1 rfl rfl (Am_ (λr:Bool=> .bool r) e0 (ple rfl))
theorem cb155:Ad_ prog 155:=Aa_ func155 (by kernel_rfl) (by kernel_rfl)
theorem Yv_:Fn prog gb 83 [] (.bool (Pz_)):=by
 refine kG func83 ntmps83 λw N H hG=>?_;have e0:=Pz_.eq_1;refine kA 7 ?_;refine hinl [] G_ func155 rfl ntmps155 cb155 rfl rfl rfl rfl λHc1 hHc1=>?_;refine kB 8 [0] λB3=>?_;refine ef (bsl 1 A3_.pc [(⟨[108,111,119],(⟨0,0⟩:Cq_),500,1⟩:A3_)] G_ rfl rfl rfl rfl rfl (λ_=>rfl) rfl (by decide) (by decide) rfl λu4=>?_);refine ef (bsl 2 i64c [0] G_ rfl rfl rfl rfl rfl (λ_=>rfl) rfl (by decide) (by decide) rfl λu5=>?_);refine give 1 rfl<|give 2 rfl ?_;refine kB 5 [] λ_=>?_;refine inlr rfl rfl rfl trivial<|cV e0 R21_ (Kk_ (⟨4,1,[(⟨[108,111,119],(⟨0,0⟩:Cq_),500,1⟩:A3_)],[0],[]⟩:C_) _ (hp:=by first|assumption|exact O2_ (by decide +kernel)) (hk:=by first|omega|decide +kernel)) rfl λr hr7 e9 w8=>?_;have hA9:=Mq_ (p:=(⟨4,1,[(⟨[108,111,119],(⟨0,0⟩:Cq_),500,1⟩:A3_)],[0],[]⟩:C_)) (k:=0) (by first|assumption|exact O2_ (by decide +kernel)) (by first|omega|(simp;done)|decide +kernel)
 (try rw[<- hr7] at hA9)
 refine kB 13 [1] λB12=>?_;refine ef (bsl 2 L_.pc [(⟨0,0,(⟨[97],1,[]⟩:W_),(⟨[],0,0,[]⟩:Q_),(⟨[],[],false,[],[],false⟩:P_),[],0,0,0,0,0,(⟨0,[],[],[],[],0,0⟩:Mail),[]⟩:L_),(⟨2,0,(⟨[],0,[]⟩:W_),(⟨[113],4,0,[]⟩:Q_),(⟨[],[],false,[],[],false⟩:P_),[],0,0,0,0,0,(⟨0,[],[],[],[],0,0⟩:Mail),[]⟩:L_),(⟨4,0,(⟨[],0,[]⟩:W_),(⟨[],0,0,[]⟩:Q_),(⟨[97],[113],false,[],[],false⟩:P_),[],0,0,0,0,0,(⟨0,[],[],[],[],0,0⟩:Mail),[]⟩:L_)] G_ rfl rfl rfl rfl rfl (λ_=>rfl) rfl (by decide) (by decide) rfl λu13=>?_);refine kA 5 ?_;refine givec 2 rfl<|loop (ι:=Nat×Nat×E_) [1,20,21] [0] (λ⟨f,v,x⟩=>[(22, .int .i64 (v:Int))]) (λ⟨f,v,x⟩=>[(1, .box (B12 0) 54 (E_.pc x))]) (λ⟨f,v,x⟩=>([(⟨0,0,(⟨[97],1,[]⟩:W_),(⟨[],0,0,[]⟩:Q_),(⟨[],[],false,[],[],false⟩:P_),[],0,0,0,0,0,(⟨0,[],[],[],[],0,0⟩:Mail),[]⟩:L_),(⟨2,0,(⟨[],0,[]⟩:W_),(⟨[113],4,0,[]⟩:Q_),(⟨[],[],false,[],[],false⟩:P_),[],0,0,0,0,0,(⟨0,[],[],[],[],0,0⟩:Mail),[]⟩:L_),(⟨4,0,(⟨[],0,[]⟩:W_),(⟨[],0,0,[]⟩:Q_),(⟨[97],[113],false,[],[],false⟩:P_),[],0,0,0,0,0,(⟨0,[],[],[],[],0,0⟩:Mail),[]⟩:L_)].length)-v<f/\Pz_=Ls_ f v x/\StOk x) (λ⟨f,v,x⟩=>f) ⟨(([(⟨0,0,(⟨[97],1,[]⟩:W_),(⟨[],0,0,[]⟩:Q_),(⟨[],[],false,[],[],false⟩:P_),[],0,0,0,0,0,(⟨0,[],[],[],[],0,0⟩:Mail),[]⟩:L_),(⟨2,0,(⟨[],0,[]⟩:W_),(⟨[113],4,0,[]⟩:Q_),(⟨[],[],false,[],[],false⟩:P_),[],0,0,0,0,0,(⟨0,[],[],[],[],0,0⟩:Mail),[]⟩:L_),(⟨4,0,(⟨[],0,[]⟩:W_),(⟨[],0,0,[]⟩:Q_),(⟨[97],[113],false,[],[],false⟩:P_),[],0,0,0,0,0,(⟨0,[],[],[],[],0,0⟩:Mail),[]⟩:L_)].length)-0+1),0,r⟩ ⟨rfl,trivial⟩ ⟨rfl,trivial⟩ ?_ ?_
 . exact⟨Nat.lt_succ_self _,e9,by assumption⟩
 rintro⟨f,v,x⟩ ⟨hp14_1,hp14_2,hp14_3⟩;have hlen0:([(⟨0,0,(⟨[97],1,[]⟩:W_),(⟨[],0,0,[]⟩:Q_),(⟨[],[],false,[],[],false⟩:P_),[],0,0,0,0,0,(⟨0,[],[],[],[],0,0⟩:Mail),[]⟩:L_),(⟨2,0,(⟨[],0,[]⟩:W_),(⟨[113],4,0,[]⟩:Q_),(⟨[],[],false,[],[],false⟩:P_),[],0,0,0,0,0,(⟨0,[],[],[],[],0,0⟩:Mail),[]⟩:L_),(⟨4,0,(⟨[],0,[]⟩:W_),(⟨[],0,0,[]⟩:Q_),(⟨[97],[113],false,[],[],false⟩:P_),[],0,0,0,0,0,(⟨0,[],[],[],[],0,0⟩:Mail),[]⟩:L_)]).length<=100:=by decide
 obtain⟨f1,rfl⟩:∃ q,f=q+1:=⟨f-1,by omega⟩;have e_f1:=hp14_2.trans (Ls_.eq_2 _ _ _);refine kA 6 ?_;refine cD e_f1 (λp16 e17=>?_) (λp37 e38=>?_)
 . have hc18:=getG (xs:=[(⟨0,0,(⟨[97],1,[]⟩:W_),(⟨[],0,0,[]⟩:Q_),(⟨[],[],false,[],[],false⟩:P_),[],0,0,0,0,0,(⟨0,[],[],[],[],0,0⟩:Mail),[]⟩:L_),(⟨2,0,(⟨[],0,[]⟩:W_),(⟨[113],4,0,[]⟩:Q_),(⟨[],[],false,[],[],false⟩:P_),[],0,0,0,0,0,(⟨0,[],[],[],[],0,0⟩:Mail),[]⟩:L_),(⟨4,0,(⟨[],0,[]⟩:W_),(⟨[],0,0,[]⟩:Q_),(⟨[97],[113],false,[],[],false⟩:P_),[],0,0,0,0,0,(⟨0,[],[],[],[],0,0⟩:Mail),[]⟩:L_)]) (k:=v) (by omega);have hz_hc18:=ddB_ok (l:=[(⟨0,0,(⟨[97],1,[]⟩:W_),(⟨[],0,0,[]⟩:Q_),(⟨[],[],false,[],[],false⟩:P_),[],0,0,0,0,0,(⟨0,[],[],[],[],0,0⟩:Mail),[]⟩:L_),(⟨2,0,(⟨[],0,[]⟩:W_),(⟨[113],4,0,[]⟩:Q_),(⟨[],[],false,[],[],false⟩:P_),[],0,0,0,0,0,(⟨0,[],[],[],[],0,0⟩:Mail),[]⟩:L_),(⟨4,0,(⟨[],0,[]⟩:W_),(⟨[],0,0,[]⟩:Q_),(⟨[97],[113],false,[],[],false⟩:P_),[],0,0,0,0,0,(⟨0,[],[],[],[],0,0⟩:Mail),[]⟩:L_)]) (by decide +kernel) (gt [(⟨0,0,(⟨[97],1,[]⟩:W_),(⟨[],0,0,[]⟩:Q_),(⟨[],[],false,[],[],false⟩:P_),[],0,0,0,0,0,(⟨0,[],[],[],[],0,0⟩:Mail),[]⟩:L_),(⟨2,0,(⟨[],0,[]⟩:W_),(⟨[113],4,0,[]⟩:Q_),(⟨[],[],false,[],[],false⟩:P_),[],0,0,0,0,0,(⟨0,[],[],[],[],0,0⟩:Mail),[]⟩:L_),(⟨4,0,(⟨[],0,[]⟩:W_),(⟨[],0,0,[]⟩:Q_),(⟨[97],[113],false,[],[],false⟩:P_),[],0,0,0,0,0,(⟨0,[],[],[],[],0,0⟩:Mail),[]⟩:L_)] v) (List.mem_of_getElem? hc18);have hy_hc18:=hz_hc18.1;have hx_hc18:=hz_hc18.2;refine kA 6 ?_;refine kI v hc18 λw19=>?_;refine kB 9 [2] λB21=>?_;refine cV e17 R22_ (Gh_ _ _ (hd:=by first|assumption|exact dd1 (by decide +kernel)|exact⟨by first|(simp;done)|omega,by first|(simp;done)|omega,by first|(simp;done)|((try dsimp only);omega),by first|(simp;done)|((try dsimp only);omega)⟩)) rfl λr1 hr22 e24 w23=>?_;have hA24:=V5_ (s:=x) (d:=(gt [(⟨0,0,(⟨[97],1,[]⟩:W_),(⟨[],0,0,[]⟩:Q_),(⟨[],[],false,[],[],false⟩:P_),[],0,0,0,0,0,(⟨0,[],[],[],[],0,0⟩:Mail),[]⟩:L_),(⟨2,0,(⟨[],0,[]⟩:W_),(⟨[113],4,0,[]⟩:Q_),(⟨[],[],false,[],[],false⟩:P_),[],0,0,0,0,0,(⟨0,[],[],[],[],0,0⟩:Mail),[]⟩:L_),(⟨4,0,(⟨[],0,[]⟩:W_),(⟨[],0,0,[]⟩:Q_),(⟨[97],[113],false,[],[],false⟩:P_),[],0,0,0,0,0,(⟨0,[],[],[],[],0,0⟩:Mail),[]⟩:L_)] v)) (by assumption) (by first|assumption|exact dd1 (by decide +kernel)|exact⟨by first|(simp;done)|omega,by first|(simp;done)|omega,by first|(simp;done)|((try dsimp only);omega),by first|(simp;done)|((try dsimp only);omega)⟩) (by first|assumption|omega|(dsimp only;omega)|decide +kernel)
   (try rw[<- hr22] at hA24)
   refine kB 18 [3,4] λB27=>?_;refine cN e24 (λp31 e32=>?_) (λp34 e35=>?_)
   . refine kA 12 ?_;exact rt1 rfl rfl (Am_ (λr:Bool=> .bool r) e32 (ple rfl))
   refine kD 12 [] λ_=>?_;refine next ⟨f1,(v+1),r1.1⟩ rfl rfl ⟨rfl,trivial⟩ ⟨rfl,trivial⟩ ?_ ?_
   . (try simp only[]);omega
   exact⟨by (try simp only[]);omega,e35,by assumption⟩
 refine kA 10 ?_;refine cV e38 R22_ (Gh_ _ (⟨6,0,(⟨[],0,[]⟩:W_),(⟨[],0,0,[]⟩:Q_),(⟨[],[],false,[],[],false⟩:P_),[],0,0,0,0,0,(⟨0,[97],[],[],[120],0,0⟩:Mail),[]⟩:L_) (hd:=by first|assumption|exact dd1 (by decide +kernel)|exact⟨by first|(simp;done)|omega,by first|(simp;done)|omega,by first|(simp;done)|((try dsimp only);omega),by first|(simp;done)|((try dsimp only);omega)⟩)) rfl λr2 hr39 e41 w40=>?_;have hA41:=V5_ (s:=x) (d:=(⟨6,0,(⟨[],0,[]⟩:W_),(⟨[],0,0,[]⟩:Q_),(⟨[],[],false,[],[],false⟩:P_),[],0,0,0,0,0,(⟨0,[97],[],[],[120],0,0⟩:Mail),[]⟩:L_)) (by assumption) (by first|assumption|exact dd1 (by decide +kernel)|exact⟨by first|(simp;done)|omega,by first|(simp;done)|omega,by first|(simp;done)|((try dsimp only);omega),by first|(simp;done)|((try dsimp only);omega)⟩) (by first|assumption|omega|(dsimp only;omega)|decide +kernel)
 (try rw[<- hr39] at hA41)
 refine kB 14 [2] λB44=>?_;refine cV e41 R22_ (Gh_ _ (⟨7,0,(⟨[],0,[]⟩:W_),(⟨[],0,0,[]⟩:Q_),(⟨[],[],false,[],[],false⟩:P_),[113],0,0,0,0,0,(⟨0,[],[],[],[],0,0⟩:Mail),[]⟩:L_) (hd:=by first|assumption|exact dd1 (by decide +kernel)|exact⟨by first|(simp;done)|omega,by first|(simp;done)|omega,by first|(simp;done)|((try dsimp only);omega),by first|(simp;done)|((try dsimp only);omega)⟩)) rfl λr3 hr45 e47 w46=>?_;have hA47:=V5_ (s:=r2.1) (d:=(⟨7,0,(⟨[],0,[]⟩:W_),(⟨[],0,0,[]⟩:Q_),(⟨[],[],false,[],[],false⟩:P_),[113],0,0,0,0,0,(⟨0,[],[],[],[],0,0⟩:Mail),[]⟩:L_)) (by assumption) (by first|assumption|exact dd1 (by decide +kernel)|exact⟨by first|(simp;done)|omega,by first|(simp;done)|omega,by first|(simp;done)|((try dsimp only);omega),by first|(simp;done)|((try dsimp only);omega)⟩) (by first|assumption|omega|(dsimp only;omega)|decide +kernel)
 (try rw[<- hr45] at hA47)
 refine kB 13 [3,4] λB50=>?_;refine call Yf_ rfl rfl λw52=>kA 1 ?_;refine callg rfl (λhc=>Yq_) rfl trivial rfl rfl λ_=>kC 2 ?_;refine callg rfl (λhc=>l22_Awake) rfl trivial rfl rfl λ_=>kC 2 ?_;refine callg rfl (λhc=>Ym_) rfl trivial rfl rfl λ_=>kC 25 ?_;exact rt1 rfl rfl (Am_ (λr:Bool=> .bool r) e47 (ple rfl))
theorem eq_Shop (a:List W_) (b:List W_):Fn prog gb 134 [.sl W_.pc a, .sl W_.pc b] (.bool (decide (a=b))):=by
 refine kG func134 ntmps134 λw N H hG=>?_;have a_l:a.length<=140737488355328:=w.1.1;have b_l:b.length<=140737488355328:=w.2.1.1;refine kA 15 ?_;refine cnd rfl (λh1=>?_) (λh1=>?_)
 . have h2:=E7_ h1;have p3:=df h2;refine kA 7 ?_;refine rt1 rfl rfl (ple ?_);exact congrArg PV.bool (eqL_len (by assumption)).symm
 have h4:=Eu_ h1;have p5:=dt h4;refine kA 11 ?_;refine loop (ι:=Nat) [0,1,6,7,8,9,10,11,12] [] (λk=>[(13, .int .i64 (k:Int))]) (λk=>[]) (λk=>k<=a.length /\ decide (a=b) = decide (a.drop k=b.drop k)) (λk=>a.length-k) 0 ⟨rfl,trivial⟩ trivial ?_ ?_
 . exact⟨Nat.zero_le _,rfl⟩
 rintro k hp6;obtain⟨hk1,hk2⟩:=hp6;refine kA 6 ?_;refine cnd rfl (λh7=>?_) (λh7=>?_)
 . have p8:=dt h7;refine kA 11 ?_;refine aN [0,1,2,3,4,5] 9 mixd<|kE [0,1] 7 ?_;obtain⟨c9,hc10⟩:=getE (xs:=a) (m:=k) (by omega);have c9_w:=W_.pwf (w.1.2 c9 (List.mem_of_getElem? hc10));refine vq 2 (qidx G_ k rfl rfl rfl hc10 rfl rfl rfl rfl) rfl (by kernel_rfl) rfl λw11=>kE [3,4,5] 3 ?_;obtain⟨c12,hc13⟩:=getE (xs:=b) (m:=k) (by omega);have c12_w:=W_.pwf (w.2.1.2 c12 (List.mem_of_getElem? hc13));refine vq 6 (qidx G_ k rfl rfl rfl hc13 rfl rfl rfl rfl) rfl (by kernel_rfl) rfl λw14=>kE [7] 1 ?_;refine vq 8 (sane rfl rfl eqg57 (veq57 c9 c12)) rfl (by kernel_rfl) rfl λw15=>vD ?_;refine kA 1 ?_;refine cnd rfl (λh16=>?_) (λh16=>?_)
   . have h17:=E7_ h16;have p18:=df h17;refine kA 11 ?_;refine rt1 rfl rfl (ple ?_);exact congrArg PV.bool (V6_ hk2 (E3_ hc10) (E3_ hc13) (by assumption)).symm
   have h19:=Eu_ h16;have p20:=dt h19;refine kC 7 ?_;refine next (k+1) rfl rfl ⟨rfl,trivial⟩ trivial ?_ ?_
   . omega
   exact⟨by omega,V7_ hk2 (E3_ hc10) (E3_ hc13) (by assumption)⟩
 have p21:=df h7;refine kA 11 ?_;refine rt1 rfl rfl (ple ?_);exact congrArg PV.bool (eqL_end hk2 (by omega) (by omega)).symm
theorem eqf_Bind_ok (s1:List P_) (s2:List P_):Fn prog gb 135 [.sl P_.pc s1, .sl P_.pc s2, .fn 136 [] []] (.bool (Pq_ s1 s2)):=by
 refine kG func135 ntmps135 λw N H hG=>?_;have s1_l:s1.length<=140737488355328:=w.1.1;have s2_l:s2.length<=140737488355328:=w.2.1.1;have e0:=Pq_.eq_1 s1 s2;generalize Pq_ s1 s2=z at e0 ⊢;refine kA 15 ?_;refine cN e0 (λp3 e4=>?_) (λp6 e7=>?_)
 . refine kA 7 ?_;subst e4;exact qr1
 refine kA 11 ?_;refine loop (ι:=Nat) [1,2,15,16] [] (λk=>[(17, .int .i64 (k:Int))]) (λk=>[]) (λk=>k<=s1.length/\z=I5_ s2 (s1.drop k) k) (λk=>s1.length-k) 0 ⟨rfl,trivial⟩ trivial ?_ ?_
 . exact⟨Nat.zero_le _,e7⟩
 rintro k ⟨hp8_1,hp8_2⟩;refine kA 6 ?_;refine cn rfl (λp10=>?_) λp28=>?_
 . have e11:=C5_ (f:=λzz=>I5_ s2 zz k) hp8_2 (Gs_ (by omega)) (I5_.eq_2 _ _ _ _);have hc12:=getG (xs:=s1) (k:=k) (by omega);refine kA 7 ?_;refine kI k hc12 λw13=>?_;have hc16:=getG (xs:=s2) (k:=k) (by omega);refine kB 10 [0] λB15=>?_;refine kI k hc16 λw17=>?_;refine kB 10 [1] λB19=>?_;refine call (Xn_ _ _) rfl rfl λw20=>kA 3 ?_;refine cN e11 (λp23 e24=>?_) (λp26 e27=>?_)
   . refine kA 11 ?_;subst e24;exact qr1
   refine kC 7 ?_;refine next (k+1) rfl rfl ⟨rfl,trivial⟩ trivial ?_ ?_
   . (try simp only[]);omega
   exact⟨by (try simp only[]);omega,e27⟩
 have e29:=C5_ (f:=λzz=>I5_ s2 zz k) hp8_2 (Gy_ (by omega)) (I5_.eq_1 _ _);refine kA 11 ?_;subst e29;exact qr1
theorem Xd_ (a:Ap_) (b:Ap_):Fn prog gb 64 [.agg (Ap_.pc a), .agg (Ap_.pc b)] (.bool (J5_ a b)):=by
 refine kG func64 ntmps64 λw N H hG=>?_;have e0:=J5_.eq_1 a b;refine kB 13 [0,1] λB2=>?_;refine call (eq_Shop _ _) rfl rfl λw4=>kC 5 ?_;refine callg rfl (λhc=>(eqf_Bind_ok _ _)) rfl ⟨(λhc=>hc),(λhc=>hc),trivial⟩ rfl rfl λ_=>kC 5 ?_;exact rt1 rfl rfl (Am_ (λr:Bool=> .bool r) e0 (ple rfl))
theorem cb143:Ad_ prog 143:=Aa_ func143 (by kernel_rfl) (by kernel_rfl)
theorem cb152:Ad_ prog 152:=Aa_ func152 (by kernel_rfl) (by kernel_rfl)
theorem cb71:Ad_ prog 71:=Aa_ func71 (by kernel_rfl) (by kernel_rfl)
theorem strings_Join (xs:List Bs) (sep:Bs) (hl:(joinB xs sep).length<=140737488355328):Fn prog gb 143 [.sl strc xs, .str sep] (.str (joinB xs sep)):=join_fn (cb143) Tryz.strings_Join_none Tryz.strings_Join xs sep hl
theorem strconv_FU (n:Int) (b:Int) (hb:b=10):Fn prog gb 152 [.int .u64 n, .int .i64 b] (.str (decB n)):=
 ⟨cb152,rfl,λN H L w us hg hsim hm=>by
   obtain⟨v1,_,rfl,h1,h2⟩:=hsim.inv_cons;obtain⟨v2,_,rfl,h3,h4⟩:=h2.inv_cons
   cases h4.inv_nil
   rw[h1.inv_int.1,h3.inv_int.1,hb]
   refine (SW.strconv_FUC n (gbPow hg) h1.inv_int.2 hm).mono λ_ _ ⟨he,hb⟩=>⟨_,H,he,Sim.str (by have :=V0_ n;omega), .refl H,Mem.below hm hb⟩⟩
theorem H4_ (n:Int):Fn prog gb 71 [.int .i64 n] (.str (itoB n)):=
 ⟨cb71,rfl,λN H L w us hg hsim hm=>by
   obtain⟨v1,_,rfl,h1,h2⟩:=hsim.inv_cons
   cases h2.inv_nil
   rw[h1.inv_int.1]
   refine (SW.strconv_IAC n (gbPow hg) h1.inv_int.2 hm).mono λ_ _ ⟨he,hb⟩=>⟨_,H,he,Sim.str (by have :=H9_ n;omega), .refl H,Mem.below hm hb⟩⟩
theorem J8_ (s:Bs):Fn prog gb 147 [.str s] (.str (Cy_ s)):=by
 refine kG func147 ntmps147 λw N H hG=>?_;have e0:=Cy_.eq_1 s;generalize Cy_ s=z at e0 ⊢;refine kA 12 ?_;refine cD e0 (λp2 e3=>?_) (λp4 e5=>?_)
 . refine kA 7 ?_;subst e3;exact qr1
 refine kA 9 ?_;subst e5;exact qr1
theorem G7_ (n:Int):Fn prog gb 76 [.int .u64 n] (.str (C0_ n)):=by
 refine kG func76 ntmps76 λw N H hG=>?_;have e0:=C0_.eq_1 n;refine kA 8 ?_;refine call (strconv_FU _ _ (by rfl)) rfl rfl λw1=>?_;have hB1:=V0_ n;refine kA 4 ?_;exact rt1 rfl rfl (Am_ (λr:Bs=> .str r) e0 (ple rfl))
theorem clone_Shop (s:List W_) (hl:s.length<=100000000:=by first|omega|(simp;done)|(simp;omega)):Fn prog gb 79 [.sl W_.pc s] (.sl W_.pc s):=by
 refine kG func79 ntmps79 λw N H hG=>?_;refine kA 9 ?_;refine ef (lnil G_ rfl rfl rfl rfl rfl λb1 hb2=>?_);refine kA 2 ?_;refine cnd rfl (λh3=>?_) (λh3=>?_)
 . refine kA 7 ?_;refine rt1 rfl rfl ?_;refine Jp_ ?_;exact hb2 (by assumption)
 refine kA 4 ?_;refine ef (bsl 0 W_.pc [] G_ rfl rfl rfl rfl rfl (λ_=>rfl) rfl (by decide) (by decide) rfl λu4=>?_);refine kA 1 ?_;refine ef (app G_ s rfl rfl rfl rfl rfl rfl rfl rfl rfl (src_l rfl (λ_=>rfl)) (by first|omega|(simp;omega)) rfl λu5=>?_);refine kA 3 ?_;refine givec 0 rfl<|kA 1 ?_;refine rt1 rfl rfl (ple ?_)
 simp
theorem Ja_ (b:Ap_) (hb:b.Ba_.length<=1000:=by omega):Fn prog gb 20 [.agg (Ap_.pc b)] (.sl W_.pc (Dd_ b)):=by
 refine kG func20 ntmps20 λw N H hG=>?_;have e0:=Dd_.eq_1 b;refine kB 10 [0] λB2=>?_;refine call (clone_Shop _) rfl rfl λw3=>kA 4 ?_;exact rt1 rfl rfl (Am_ (λr:(List W_)=> .sl W_.pc r) e0 (ple rfl))
theorem P3_ (l:Ae_):Fn prog gb 149 [.agg (Ae_.pc l)] (.int .i64 (Dp_ l)):=by
 refine kG func149 ntmps149 λw N H hG=>?_;have l_items_l:l.items.length<=140737488355328:=w.1.1.1;have e0:=Dp_.eq_1 l;refine kB 21 [0] λB2=>?_;refine loop (ι:=Nat×Int) [2,7,8] [0] (λ⟨k,n⟩=>[(9, .int .i64 (k:Int)),(3, .int .i64 n)]) (λ⟨k,n⟩=>[]) (λ⟨k,n⟩=>k<=l.items.length/\Dp_ l=Cl_ (l.items.drop k) n/\0<=n/\n<=k) (λ⟨k,n⟩=>l.items.length-k) ⟨0,0⟩ ⟨rfl,rfl,trivial⟩ trivial ?_ ?_
 . exact⟨Nat.zero_le _,e0,⟨by omega,by omega⟩⟩
 rintro⟨k,n⟩ ⟨hp3_1,hp3_2,hp3_3⟩;refine kA 6 ?_;refine cn rfl (λp5=>?_) λp16=>?_
 . have e6:=C5_ (f:=λzz=>Cl_ zz n) hp3_2 (Gs_ (by omega)) (Cl_.eq_2 _ _ _);have hc7:=getG (xs:=l.items) (k:=k) (by omega);refine kA 6 ?_;refine kI k hc7 λw8=>?_;refine kB 12 [1] λB10=>?_;refine cE e6 (λh11 e13=>?_) (λh11 e15=>?_)
   . have h12:=E7_ h11;refine kC 11 ?_;refine next ⟨(k+1),(n+1)⟩ rfl rfl ⟨rfl,rfl,trivial⟩ trivial ?_ ?_
     . (try simp only[]);omega
     exact⟨by (try simp only[]);omega,e13,⟨by omega,by omega⟩⟩
   have h14:=Eu_ h11;refine kC 7 ?_;refine next ⟨(k+1),n⟩ rfl rfl ⟨rfl,rfl,trivial⟩ trivial ?_ ?_
   . (try simp only[]);omega
   exact⟨by (try simp only[]);omega,e15,⟨by omega,by omega⟩⟩
 have e17:=C5_ (f:=λzz=>Cl_ zz n) hp3_2 (Gy_ (by omega)) (Cl_.eq_1 _);refine kA 12 ?_;exact rt1 rfl rfl (Am_ (λr:Int=> .int .i64 r) e17 (ple rfl))
theorem I9_ (b:Ap_) (hb:b.binds.length<=1000/\∀ y∈b.binds,y.want.length<=1000:=by first|assumption|exact bk_want hb.1 hb.2):Fn prog gb 21 [.agg (Ap_.pc b)] (.sl P_.pc (Cm_ b)):=by
 refine kG func21 ntmps21 λw N H hG=>?_;obtain⟨hb1,hb2⟩:=id hb;have e0:=Cm_.eq_1 b;refine kB 21 [0] λB2=>?_;refine sw_own (t:=3) (k:=6) (e:=62) 1 P_.pc rfl rfl ?_;refine loop (ι:=Nat×(List P_)×Value) [2,7,8] [0] (λ⟨k,out,u_out⟩=>[(9, .int .i64 (k:Int)),(3, .osl 1)]) (λ⟨k,out,u_out⟩=>[(1, .arr u_out 6 62 P_.pc out)]) (λ⟨k,out,u_out⟩=>k<=b.binds.length/\Cm_ b=C8_ (b.binds.drop k) out/\out.length<=k) (λ⟨k,out,u_out⟩=>b.binds.length-k) ⟨0,[],(.slice none 0 0)⟩ ⟨rfl,rfl,trivial⟩ ⟨rfl,trivial⟩ ?_ ?_
 . exact⟨Nat.zero_le _,e0,(by first|omega|(simp;done)|(simp;omega))⟩
 rintro⟨k,out,u_out⟩ ⟨hp3_1,hp3_2,hp3_3⟩;refine kA 6 ?_;refine cn rfl (λp5=>?_) λp14=>?_
 . have e6:=C5_ (f:=λzz=>C8_ zz out) hp3_2 (Gs_ (by omega)) (C8_.eq_2 _ _ _);have hc7:=getG (xs:=b.binds) (k:=k) (by omega);have hz_hc7:=hb2 (gt b.binds k) (List.mem_of_getElem? hc7);refine kA 6 ?_;refine kI k hc7 λw8=>?_;refine kB 8 [2] λB10=>?_;refine call (Ur_ _) rfl rfl λw11=>ef (bsl 3 P_.pc [(gt b.binds k)] G_ rfl rfl rfl rfl rfl (λ_=>rfl) rfl (by decide) (by decide) rfl λu12=>?_);refine ef (app G_ [(gt b.binds k)] rfl rfl rfl rfl rfl rfl rfl rfl rfl (src_o rfl rfl) (by first|omega|(simp;omega)) rfl λu13=>?_);refine kC 8 ?_;refine next ⟨(k+1),(out++[(gt b.binds k)]),(u13)⟩ rfl rfl ⟨rfl,rfl,trivial⟩ ⟨rfl,trivial⟩ ?_ ?_
   . (try simp only[]);omega
   exact⟨by (try simp only[]);omega,e6,(by (try simp only[List.length_append,List.length_cons,List.length_nil]);omega)⟩
 have e15:=C5_ (f:=λzz=>C8_ zz out) hp3_2 (Gy_ (by omega)) (C8_.eq_1 _);refine kA 11 ?_;refine givec 1 rfl<|kA 1 ?_;exact rt1 rfl rfl (Am_ (λr:(List P_)=> .sl P_.pc r) e15 (ple rfl))
abbrev R33_:Bs->PV:=λr=> .str r
theorem Td_ (a:Cq_):Fn prog gb 70 [.agg (Cq_.pc a)] (.str (Fq_ a)):=by
 refine kG func70 ntmps70 λw N H hG=>?_;have e0:=Fq_.eq_1 a;refine kB 11 [0] λB2=>?_;refine call (H4_ _) rfl rfl λw3=>?_;have hB3:=H9_ a.level;refine kA 10 ?_;refine loop (ι:=Nat×Bs×Nat) [1,2] [0] (λ⟨f,s,v⟩=>[(3, .str s),(9, .int .i64 (v:Int))]) (λ⟨f,s,v⟩=>[]) (λ⟨f,s,v⟩=>32-v<f/\Fq_ a=Gj_ a f s v/\v<=32/\s.length<=21+22*v) (λ⟨f,s,v⟩=>f) ⟨(32-0+1),(itoB a.level),0⟩ ⟨rfl,rfl,trivial⟩ trivial ?_ ?_
 . exact⟨Nat.lt_succ_self _,e0,⟨by omega,by omega⟩⟩
 rintro⟨f,s,v⟩ ⟨hp5_1,hp5_2,hp5_3⟩;obtain⟨f1,rfl⟩:∃ q,f=q+1:=⟨f-1,by omega⟩;have e_f1:=hp5_2.trans (Gj_.eq_2 _ _ _ _);refine kA 6 ?_;refine cD e_f1 (λp7 e8=>?_) (λp16 e17=>?_)
 . have :=wr_u32 ((BitVec.ofInt (IntKind.bits .u32) (Int.fdiv a.Z7_ (2 ^ (min ((v:Int):Int).toNat (IntKind.bits .u32)))) &&& BitVec.ofInt (IntKind.bits .u32) 1).toNat);refine kC 20 ?_;refine cD e8 (λp10 e11=>?_) (λp14 e15=>?_)
   . refine kA 3 ?_;refine call (H4_ _) rfl rfl λw12=>?_;have hB12:=H9_ (v:Int);refine go G_ 10 rfl rfl ⟨(by (try simp only[List.length_append,List.length_cons,List.length_nil]);omega),(by (try simp only[List.length_append,List.length_cons,List.length_nil]);omega),(by omega),trivial⟩ ?_;refine next ⟨f1,(s++([58]++(itoB (v:Int)))),(v+1)⟩ rfl rfl ⟨rfl,rfl,trivial⟩ trivial ?_ ?_
     . (try simp only[]);omega
     exact⟨by (try simp only[]);omega,e11,⟨by omega,(by (try simp only[List.length_append,List.length_cons,List.length_nil]);omega)⟩⟩
   refine kC 7 ?_;refine next ⟨f1,s,(v+1)⟩ rfl rfl ⟨rfl,rfl,trivial⟩ trivial ?_ ?_
   . (try simp only[]);omega
   exact⟨by (try simp only[]);omega,e15,⟨by omega,(by (try simp only[List.length_append,List.length_cons,List.length_nil]);omega)⟩⟩
 refine kA 12 ?_;exact rt1 rfl rfl (Am_ (λr:Bs=> .str r) e17 (ple rfl))
theorem Ul_ (kind:Int):Fn prog gb 153 [.int .u8 kind] (.str (I8_ kind)):=by
 refine kG func153 ntmps153 λw N H hG=>?_;have kind_r:0<=kind/\kind<=255:=w.1;have e0:=I8_.eq_1 kind;generalize I8_ kind=z at e0 ⊢;refine kA 7 ?_;refine ef (bsl 0 strc [[108,111,115,116],[114,101,108,101,97,115,101,100],[119,111,107,101,110],[114,101,102,117,115,101,100],[98,101,103,117,110],[111,118,101,114]] G_ rfl rfl rfl rfl rfl (λ_=>rfl) rfl (by decide) (by decide) rfl λu1=>?_);refine kC 18 ?_;refine bcase (decide (0<=(kind-1))) (λh2=>?_) (λh2=>?_)
 . have p3:=dt h2;have e4:=e0.trans (condT h2);refine so_rt (t:=10) (p':= .bool true) (ple (congrArg PV.bool h2)) rfl ?_;refine so_rt (t:=11) (p':= .bool true) (ple (congrArg PV.bool h2)) rfl ?_;refine so_rt (t:=12) (p':= .int .i64 (kind-1)) (ple_gv (show gOf (decide (0<=(kind-1))) true=true by rw[h2];rfl)) rfl ?_;refine ungd rfl rfl<|kA 1 ?_;refine ungd rfl rfl<|kA 1 ?_;refine ungd rfl rfl<|kA 4 ?_;refine cD e4 (λp6 e7=>?_) (λp10 e11=>?_)
   . refine kA 4 ?_;refine give 0 rfl ?_;have hc8:=getG (xs:=([[108,111,115,116],[114,101,108,101,97,115,101,100],[119,111,107,101,110],[114,101,102,117,115,101,100],[98,101,103,117,110],[111,118,101,114]]:List Bs)) (k:=((kind-1)).toNat) (by omega);refine q1 (qidx G_ ((kind-1)).toNat rfl rfl (by omega) hc8 rfl rfl rfl rfl) rfl λw9=>kA 6 ?_;subst e7;exact qr1
   refine kA 6 ?_;refine cV e11 R33_ (G7_ _) rfl λr hr12 e14 w13=>?_;have hA14:=J9_ kind
   (try rw[<- hr12] at hA14)
   refine kA 4 ?_;subst e14;exact qr1
 have p16:=df h2;have e17:=e0.trans (condF h2);refine so_rt (t:=10) (p':= .bool false) (ple (congrArg PV.bool h2)) rfl ?_;refine so_rt (t:=11) (p':= .bool false) (ple (congrArg PV.bool h2)) rfl ?_;refine ungs rfl rfl rfl ?_;refine ungs rfl rfl rfl ?_;refine ungs rfl rfl rfl ?_;refine kA 10 ?_;refine cV e17 R33_ (G7_ _) rfl λr1 hr18 e20 w19=>?_;have hA20:=J9_ kind
 (try rw[<- hr18] at hA20)
 refine kA 4 ?_;subst e20;exact qr1
theorem Li_ (p:C_) (k:Int) (hp:p.places.length<=100000/\0<=k/\∀ y∈p.places,y.name.length<=300:=by first|assumption|exact⟨hpl,by omega,hpn⟩):Fn prog gb 75 [.agg (C_.pc p), .int .i64 k] (.str (Dn_ p k)):=by
 refine kG func75 ntmps75 λw N H hG=>?_;have e0:=Dn_.eq_1 p k;generalize Dn_ p k=z at e0 ⊢;refine kB 16 [0] λB2=>?_;refine cD e0 (λp4 e5=>?_) (λp8 e9=>?_)
 . have hc6:=getG (xs:=p.places) (k:=(k).toNat) (by omega);refine kA 5 ?_;refine q1 (qidx G_ (k).toNat rfl rfl (by omega) hc6 rfl rfl rfl rfl) rfl λw7=>kA 7 ?_;subst e5;exact qr1
 refine kA 5 ?_;refine call (H4_ _) rfl rfl λw10=>?_;have hB10:=H9_ k;refine kA 4 ?_;subst e9;exact qr1
theorem cb69:Ad_ prog 69:=Aa_ func69 (by kernel_rfl) (by kernel_rfl)
theorem Ha_ (t:List Bs) (words:List Bs) (ht:t.length<=1000000:=by omega) (hw:(joinB words [32]).length<=100000):Fs prog gb 69 [.sl strc words] 152 1 9 strc t (Dj_ t words):=by
 refine fs_cw G_ func69 rfl ntmps69 rfl cb69 rfl λw t_l b u0 N H hG=>?_;have e0:=Dj_.eq_1 t words;refine aN [1,2,3,4,5,6,7] 12 mixd<|kE [0,1,2,3,4,5] 6 ?_;refine vC 6 rfl (strings_Join _ _ (by first|omega|(simp only[joinB,List.length_append,List.length_cons,List.length_nil];omega))) rfl λw1=>?_;refine vE 7 rfl (bsl 2 strc [joinB words [32]] G_ rfl rfl rfl rfl rfl (λ_=>rfl) rfl (by decide) (by decide) rfl λu2=>?_);refine vE 8 rfl (app G_ [joinB words [32]] rfl rfl rfl rfl rfl rfl rfl rfl rfl (src_o rfl rfl) (by first|omega|(simp;omega)) rfl λu3=>?_);refine kE [9,10] 1 ?_;refine vtp 11 rfl (by kernel_rfl) (by kernel_rfl) (Jb_ G_ rfl rfl rfl rfl rfl rfl rfl rfl rfl ?_);refine vD ?_;exact rsn e0 rfl rfl (ple rfl) rfl rfl
abbrev R34_:(List W_)->PV:=λr=> .sl W_.pc r
abbrev R35_:(List Q_)->PV:=λr=> .sl Q_.pc r
abbrev R36_:Ae_->PV:=λr=> .agg (Ae_.pc r)
abbrev R37_:Bc_->PV:=λr=> .agg (Bc_.pc r)
theorem cb73:Ad_ prog 73:=Aa_ func73 (by kernel_rfl) (by kernel_rfl)
theorem cb74:Ad_ prog 74:=Aa_ func74 (by kernel_rfl) (by kernel_rfl)
theorem Uk_ (n:D5_) (hn:n.text.length<=1000000:=by first|omega|decide):Fn prog gb 78 [.agg (D5_.pc n)] (.str (I7_ n)):=by
 refine kG func78 ntmps78 λw N H hG=>?_;have e0:=I7_.eq_1 n;refine kB 7 [0] λB2=>?_;refine aN [1,2,3,4,5,6] 12 mixd<|kE [0,1] 10 ?_;refine vC 2 rfl (G7_ _) rfl λw3=>?_;have hB3:=J9_ n.tick;refine kE [3,4] 7 ?_;refine vC 5 rfl (Ul_ _) rfl λw5=>?_;have hB5:=rwhat_len n.kind;refine kE [6,7] 4 ?_;refine vC 8 rfl (J8_ _) rfl λw7=>?_;have hB7:=Qi_ n.text;refine vE 9 rfl (bsl 1 strc [[110,111,116,101],(C0_ n.tick),(I8_ n.kind),(Cy_ n.text)] G_ rfl rfl rfl rfl rfl (λ_=>rfl) rfl (by decide) (by decide) rfl λu9=>?_);refine vE 10 rfl (calll 1 rfl (strings_Join _ _ (by first|omega|(simp only[joinB,List.length_append,List.length_cons,List.length_nil];omega))) rfl rfl rfl λw10=>?_);refine kE [11] 0 ?_;refine vD<|kA 2 ?_;exact rt1 rfl rfl (Am_ (λr:Bs=> .str r) e0 (ple rfl))
theorem Uo_ (t:List Bs) (x:U_) (ht:t.length<=1000:=by omega) (hb:BkOk x.book/\BkB x.book:=by first|assumption|exact⟨hr.2.2.2.1.1,hr.2.2.2.2.1⟩):Fs prog gb 73 [.agg (U_.pc x)] 152 1 9 strc t (Hf_ t x):=by
 refine fs_cw G_ func73 rfl ntmps73 rfl cb73 rfl λw t_l b u0 N H hG=>?_;have hbb:=id hb;have hbk:=hbb.1;obtain⟨hb1,hb2,hb3⟩:=hbk;have e0:=Hf_.eq_1 t x;refine kB 7 [2] λB2=>?_;refine ef (bsl 3 strc [[100,105,114,101,99,116],[102,97,110,111,117,116],[116,111,112,105,99],[104,101,97,100,115],[114,101,108,101,97,115,101]] G_ rfl rfl rfl rfl rfl (λ_=>rfl) rfl (by decide) (by decide) rfl λu3=>?_);refine kA 8 ?_;refine cV e0 R34_ (Ja_ _) rfl λr hr4 e6 w5=>?_;have hA6:=Nd_ x.book
 (try rw[<- hr4] at hA6)
 have hA7:=congrArg List.length (Nd_ x.book)
 (try rw[<- hr4] at hA7)
 refine kA 5 ?_;refine loop (ι:=Nat×(List Bs)×Value) [0,3,4,14,15] [2,3] (λ⟨k,l,u_l⟩=>[(16, .int .i64 (k:Int))]) (λ⟨k,l,u_l⟩=>[(0, .box b 152 [.osl 1]),(1, .arr u_l 1 9 strc l)]) (λ⟨k,l,u_l⟩=>k<=r.length/\Hf_ t x=D2_ x (r.drop k) l/\l.length<=t.length+k) (λ⟨k,l,u_l⟩=>r.length-k) ⟨0,t,(u0)⟩ ⟨rfl,trivial⟩ ⟨rfl,rfl,trivial⟩ ?_ ?_
 . exact⟨Nat.zero_le _,e6,(by first|omega|(simp;done)|(simp;omega))⟩
 rintro⟨k,l,u_l⟩ ⟨hp9_1,hp9_2,hp9_3⟩;refine kA 6 ?_;refine cn rfl (λp11=>?_) λp27=>?_
 . have e12:=C5_ (f:=λzz=>D2_ x zz l) hp9_2 (Gs_ (by omega)) (D2_.eq_2 _ _ _ _);have hc13:=getG (xs:=r) (k:=k) (by first|omega|(simp only[List.length_cons,List.length_nil];omega));have hz_hc13:=hbb.2.1 (gt r k) (by have hm:=List.mem_of_getElem? hc13;first|exact hm|exact Eq.subst (motive:=λl=>(gt r k)∈l) (show r=x.book.Ba_ by assumption) hm);have hy_hc13:=Q5_ hz_hc13.1;have hs_hc13:=hz_hc13.2;refine kA 6 ?_;refine kI k hc13 λw14=>?_;refine kB 5 [4] λB16=>?_;refine aN [0,1,5,6,7,8,9,10] 13 mixd<|kE [0,1,2,3,4,5] 7 ?_;refine vq 6 (eidx ((gt r k).sort).toNat G_ rfl rfl rfl rfl rfl rfl rfl (by omega) (by first|omega|(simp only[List.length_cons,List.length_nil];omega))) rfl (by kernel_rfl) rfl λw17=>?_;refine kE [8,9] 4 ?_;refine vC 10 rfl (J8_ _) rfl λw18=>?_;have hB18:=Qi_ ((gt r k).to');have hc20:=getG (xs:=([[100,105,114,101,99,116],[102,97,110,111,117,116],[116,111,112,105,99],[104,101,97,100,115],[114,101,108,101,97,115,101]]:List Bs)) (k:=((gt r k).sort).toNat) (by first|omega|(simp only[List.length_cons,List.length_nil];omega));have hl_hc20:=(by decide +kernel:∀ z∈([[100,105,114,101,99,116],[102,97,110,111,117,116],[116,111,112,105,99],[104,101,97,100,115],[114,101,108,101,97,115,101]]:List Bs),z.length<=20) _ (List.mem_of_getElem? hc20);refine vE 7 rfl (elod1 (i:=3) (.str (gt [[100,105,114,101,99,116],[102,97,110,111,117,116],[116,111,112,105,99],[104,101,97,100,115],[114,101,108,101,97,115,101]] (((gt r k).sort).toNat))) (((gt r k).sort).toNat) 0 G_ rfl rfl rfl rfl hc20 rfl rfl rfl rfl λw21=>?_);refine vE 11 rfl (bsl 5 strc [[115,104,111,112],(gt r k).name,(gt [[100,105,114,101,99,116],[102,97,110,111,117,116],[116,111,112,105,99],[104,101,97,100,115],[114,101,108,101,97,115,101]] (((gt r k).sort).toNat)),(Cy_ ((gt r k).to'))] G_ rfl rfl rfl rfl rfl (λ_=>rfl) rfl (by decide) (by decide) rfl λu22=>?_);refine ve2s 12 rfl (by kernel_rfl) rfl (Uz_ 5 rfl (fcall (i:=0) (j:=1) (Ha_ l [[115,104,111,112],(gt r k).name,(gt [[100,105,114,101,99,116],[102,97,110,111,117,116],[116,111,112,105,99],[104,101,97,100,115],[114,101,108,101,97,115,101]] (((gt r k).sort).toNat)),(Cy_ ((gt r k).to'))] (hw:=(by simp only[joinB,List.length_append,List.length_cons,List.length_nil];omega))) rfl rfl rfl rfl rfl rfl rfl ?_));generalize hr23:Dj_ l [[115,104,111,112],(gt r k).name,(gt [[100,105,114,101,99,116],[102,97,110,111,117,116],[116,111,112,105,99],[104,101,97,100,115],[114,101,108,101,97,115,101]] (((gt r k).sort).toNat)),(Cy_ ((gt r k).to'))]=r1;intro u24;have e25:=e12.trans (C3_ hr23.symm);have hA25:=Kp_ l [[115,104,111,112],(gt r k).name,(gt [[100,105,114,101,99,116],[102,97,110,111,117,116],[116,111,112,105,99],[104,101,97,100,115],[114,101,108,101,97,115,101]] (((gt r k).sort).toNat)),(Cy_ ((gt r k).to'))]
   (try rw[<- hr23.symm] at hA25)
   refine vD<|kC 6 ?_;refine next ⟨(k+1),r1,(u24)⟩ rfl rfl ⟨rfl,trivial⟩ ⟨rfl,rfl,trivial⟩ ?_ ?_
   . (try simp only[]);omega
   exact⟨by (try simp only[]);omega,e25,by omega⟩
 have e28:=C5_ (f:=λzz=>D2_ x zz l) hp9_2 (Gy_ (by omega)) (D2_.eq_1 _ _);refine kA 9 ?_;refine cV e28 R8_ (I9_ _) rfl λr2 hr29 e31 w30=>?_;have hA31:=Jj_ x.book
 (try rw[<- hr29] at hA31)
 have hA32:=congrArg List.length (Jj_ x.book)
 (try rw[<- hr29] at hA32)
 refine kA 5 ?_;refine loop (ι:=Nat×(List Bs)×Value) [0,36,37] [2,3] (λ⟨k1,l1,u_l1⟩=>[(38, .int .i64 (k1:Int))]) (λ⟨k1,l1,u_l1⟩=>[(0, .box b 152 [.osl 1]),(1, .arr u_l1 1 9 strc l1)]) (λ⟨k1,l1,u_l1⟩=>k1<=r2.length/\Hf_ t x=Eh_ (r2.drop k1) l1/\l1.length<=t.length+8+k1) (λ⟨k1,l1,u_l1⟩=>r2.length-k1) ⟨0,l,(u_l)⟩ ⟨rfl,trivial⟩ ⟨rfl,rfl,trivial⟩ ?_ ?_
 . exact⟨Nat.zero_le _,e31,(by first|omega|(simp;done)|(simp;omega))⟩
 rintro⟨k1,l1,u_l1⟩ ⟨hp34_1,hp34_2,hp34_3⟩;refine kA 6 ?_;refine cn rfl (λp36=>?_) λp61=>?_
 . have e37:=C5_ (f:=λzz=>Eh_ zz l1) hp34_2 (Gs_ (by omega)) (Eh_.eq_2 _ _ _);have hc38:=getG (xs:=r2) (k:=k1) (by first|omega|(simp only[List.length_cons,List.length_nil];omega));have hz_hc38:=hbb.2.2 (gt r2 k1) (by have hm:=List.mem_of_getElem? hc38;first|exact hm|exact Eq.subst (motive:=λl=>(gt r2 k1)∈l) (show r2=x.book.binds by assumption) hm);have hy_hc38:=hz_hc38.1;have hx_hc38:=Mp_ hz_hc38.2.1;have hw_hc38:=hz_hc38.2.2.1;have hv_hc38:=X1_ hz_hc38.2.2.2.1;refine kA 6 ?_;refine kI k1 hc38 λw39=>?_;refine kB 12 [4] λB41=>?_;obtain⟨o,e_o,q_o⟩:=Hl_ e37;refine Ii_ (ι:=Bs) [0,8,10,36,37,38] [0,1,2,3,4] (λto_=>[(9, .str to_)]) (λto_=>[]) (λto_=>o=to_/\to_.length<=5) ?_ ?_
   . refine kA 6 ?_;refine cE e_o (λh42 e43=>?_) (λh42 e44=>?_)
     . refine kA 3 ?_;refine nX [117,112] ?_ ⟨rfl,trivial⟩ trivial;exact⟨e43,by decide⟩
     refine kA 1 ?_;refine nX [113,117,101,117,101] ?_ ⟨rfl,trivial⟩ trivial;exact⟨e44,by decide⟩
   rintro to_ ⟨hp45,hp45_3⟩;have e46:=J1_ q_o hp45;refine kA 2 ?_;obtain⟨o1,e_o1,q_o1⟩:=Hl_ e46;refine Ii_ (ι:=Bs) [0,8,9,36,37,38] [0,1,2,3,4] (λall=>[(10, .str all)]) (λall=>[]) (λall=>o1=all/\all.length<=5) ?_ ?_
   . refine kA 6 ?_;refine cE e_o1 (λh47 e48=>?_) (λh47 e49=>?_)
     . refine kA 3 ?_;refine nX [97,108,108] ?_ ⟨rfl,trivial⟩ trivial;exact⟨e48,by decide⟩
     refine kA 1 ?_;refine nX [97,110,121] ?_ ⟨rfl,trivial⟩ trivial;exact⟨e49,by decide⟩
   rintro all ⟨hp50,hp50_3⟩;have e51:=J1_ q_o1 hp50;refine kA 1 ?_;refine aN [0,1,5,6,7,8,9,10] 16 mixd<|kE [0,1,2,3,4,5,6,7] 8 ?_;refine vC 8 rfl (J8_ _) rfl λw52=>?_;have hB52:=Qi_ ((gt r2 k1).key);refine kE [9,10,11,12] 3 ?_;refine vC 13 rfl (H4_ _) rfl λw54=>?_;have hB54:=H9_ (((gt r2 k1).want).length:Int);refine vE 14 rfl (bsl 5 strc [[98,105,110,100],(gt r2 k1).Bb_,(gt r2 k1).to',to_,(Cy_ ((gt r2 k1).key)),all,itoB (((gt r2 k1).want).length:Int)] G_ rfl rfl rfl rfl rfl (λ_=>rfl) rfl (by decide) (by decide) rfl λu56=>?_);refine ve2s 15 rfl (by kernel_rfl) rfl (Uz_ 5 rfl (fcall (i:=0) (j:=1) (Ha_ l1 [[98,105,110,100],(gt r2 k1).Bb_,(gt r2 k1).to',to_,(Cy_ ((gt r2 k1).key)),all,itoB (((gt r2 k1).want).length:Int)] (hw:=(by simp only[joinB,List.length_append,List.length_cons,List.length_nil];omega))) rfl rfl rfl rfl rfl rfl rfl ?_));generalize hr57:Dj_ l1 [[98,105,110,100],(gt r2 k1).Bb_,(gt r2 k1).to',to_,(Cy_ ((gt r2 k1).key)),all,itoB (((gt r2 k1).want).length:Int)]=r3;intro u58;have e59:=e51.trans (C3_ hr57.symm);have hA59:=Kp_ l1 [[98,105,110,100],(gt r2 k1).Bb_,(gt r2 k1).to',to_,(Cy_ ((gt r2 k1).key)),all,itoB (((gt r2 k1).want).length:Int)]
   (try rw[<- hr57.symm] at hA59)
   refine vD<|kC 6 ?_;refine next ⟨(k1+1),r3,(u58)⟩ rfl rfl ⟨rfl,trivial⟩ ⟨rfl,rfl,trivial⟩ ?_ ?_
   . (try simp only[]);omega
   exact⟨by (try simp only[]);omega,e59,by omega⟩
 have e62:=C5_ (f:=λzz=>Eh_ zz l1) hp34_2 (Gy_ (by omega)) (Eh_.eq_1 _);refine kA 4 ?_;exact rsn e62 rfl rfl (ple rfl) rfl rfl
theorem Ub_ (t:List Bs) (p:C_) (x:U_) (ht:t.length<=1000:=by omega) (hp:RpP p:=by first|assumption|exact⟨by omega,hr.2.2.1⟩) (hs:StkOk x.D_:=by first|assumption|exact hr.2.2.2.1.2.1) (hq:RoB x.D_:=by first|assumption|exact hr.2.2.2.2.2.1):Fs prog gb 74 [.agg (C_.pc p), .agg (U_.pc x)] 152 1 9 strc t (Gg_ t p x):=by
 refine fs_cw G_ func74 rfl ntmps74 rfl cb74 rfl λw t_l b u0 N H hG=>?_;have hql:=Q2_ hs;obtain⟨hpl,hpn⟩:=id hp;have e0:=Gg_.eq_1 t p x;refine kB 11 [2,3] λB2=>?_;refine cV e0 R35_ (Fw_ _ (hs:=by exact Nat.le_trans hs.1.1 (by decide))) rfl λr hr4 e6 w5=>?_;have hA6:=Q2_ (s:=x.D_) hs
 (try rw[<- hr4] at hA6)
 refine kA 5 ?_;refine loop (ι:=Nat×(List Bs)×Value) [0,4,5,13,14] [2,3] (λ⟨k,l,u_l⟩=>[(15, .int .i64 (k:Int))]) (λ⟨k,l,u_l⟩=>[(0, .box b 152 [.osl 1]),(1, .arr u_l 1 9 strc l)]) (λ⟨k,l,u_l⟩=>k<=r.length/\Gg_ t p x=Dw_ p x (r.drop k) l/\l.length<=t.length+k) (λ⟨k,l,u_l⟩=>r.length-k) ⟨0,t,(u0)⟩ ⟨rfl,trivial⟩ ⟨rfl,rfl,trivial⟩ ?_ ?_
 . exact⟨Nat.zero_le _,e6,(by first|omega|(simp;done)|(simp;omega))⟩
 rintro⟨k,l,u_l⟩ ⟨hp8_1,hp8_2,hp8_3⟩;refine kA 6 ?_;refine cn rfl (λp10=>?_) λp42=>?_
 . have e11:=C5_ (f:=λzz=>Dw_ p x zz l) hp8_2 (Gs_ (by omega)) (Dw_.eq_2 _ _ _ _ _);have hc12:=getG (xs:=r) (k:=k) (by omega);have hz_hc12:=queues_f (q:=(gt r k)) hq (by have hm:=List.mem_of_getElem? hc12;first|exact hm|exact Eq.subst (motive:=λl=>(gt r k)∈l) (show r=X_ x.D_ by assumption) hm);refine kA 6 ?_;refine kI k hc12 λw13=>?_;refine kB 11 [4] λB15=>?_;refine cV e11 R36_ (Pe_ _ _) rfl λr1 hr16 e18 w17=>?_;have hA18:=line_ok (s:=x.D_) (n:=((gt r k).name)) hs
   (try rw[<- hr16] at hA18)
   have hA19:=(line_ok (s:=x.D_) (n:=((gt r k).name)) hs).1
   (try rw[<- hr16] at hA19)
   refine kB 4 [5] λB22=>?_;refine aN [0,1,6,7,8,9,10,11] 20 mixd<|kE [0,1,2,3] 16 ?_;refine vC 4 rfl (Hx_ r1) rfl λw23=>?_;have hB23:=llen_eq r1;refine vC 5 rfl (H4_ _) rfl λw25=>?_;have hB25:=H9_ (A8_ r1);refine kE [6,7] 12 ?_;refine vC 8 rfl (G7_ _) rfl λw27=>?_;have hB27:=J9_ ((gt r k).most);refine kE [9] 10 ?_;refine vC 10 rfl (Hx_ r1) rfl λw29=>?_;have hB29:=llen_eq r1;refine kE [11] 8 ?_;refine vC 12 rfl (P3_ r1) rfl λw31=>?_;have hB31:=lrdy_b r1;refine kF [13] 6 ?_;refine vC 14 rfl (H4_ _) rfl λw33=>?_;have hB33:=H9_ ((A8_ r1)-(Dp_ r1));refine kE [15,16] 3 ?_;refine vC 17 rfl (J8_ _) rfl λw35=>?_;have hB35:=Qi_ ((gt r k).dead);refine vE 18 rfl (bsl 6 strc [[113,117,101,117,101],(gt r k).name,itoB (A8_ r1),(C0_ ((gt r k).most)),itoB ((A8_ r1)-(Dp_ r1)),(Cy_ ((gt r k).dead))] G_ rfl rfl rfl rfl rfl (λ_=>rfl) rfl (by decide) (by decide) rfl λu37=>?_);refine ve2s 19 rfl (by kernel_rfl) rfl (Uz_ 6 rfl (fcall (i:=0) (j:=1) (Ha_ l [[113,117,101,117,101],(gt r k).name,itoB (A8_ r1),(C0_ ((gt r k).most)),itoB ((A8_ r1)-(Dp_ r1)),(Cy_ ((gt r k).dead))] (hw:=(by simp only[joinB,List.length_append,List.length_cons,List.length_nil];omega))) rfl rfl rfl rfl rfl rfl rfl ?_));generalize hr38:Dj_ l [[113,117,101,117,101],(gt r k).name,itoB (A8_ r1),(C0_ ((gt r k).most)),itoB ((A8_ r1)-(Dp_ r1)),(Cy_ ((gt r k).dead))]=r2;intro u39;have e40:=e18.trans (C3_ hr38.symm);have hA40:=Kp_ l [[113,117,101,117,101],(gt r k).name,itoB (A8_ r1),(C0_ ((gt r k).most)),itoB ((A8_ r1)-(Dp_ r1)),(Cy_ ((gt r k).dead))]
   (try rw[<- hr38.symm] at hA40)
   refine vD<|kC 6 ?_;refine next ⟨(k+1),r2,(u39)⟩ rfl rfl ⟨rfl,trivial⟩ ⟨rfl,rfl,trivial⟩ ?_ ?_
   . (try simp only[]);omega
   exact⟨by (try simp only[]);omega,e40,by omega⟩
 have e43:=C5_ (f:=λzz=>Dw_ p x zz l) hp8_2 (Gy_ (by omega)) (Dw_.eq_1 _ _ _);refine kA 11 ?_;refine loop (ι:=Nat×Nat×(List Bs)×Value) [0,4,5] [2,3] (λ⟨f,v,l1,u_l1⟩=>[(45, .int .i64 (v:Int))]) (λ⟨f,v,l1,u_l1⟩=>[(0, .box b 152 [.osl 1]),(1, .arr u_l1 1 9 strc l1)]) (λ⟨f,v,l1,u_l1⟩=>16-v<f/\Gg_ t p x=E8_ p x f v l1/\v<=16/\l1.length<=t.length+8+v) (λ⟨f,v,l1,u_l1⟩=>f) ⟨(16-0+1),0,l,(u_l)⟩ ⟨rfl,trivial⟩ ⟨rfl,rfl,trivial⟩ ?_ ?_
 . exact⟨Nat.lt_succ_self _,e43,⟨by omega,by omega⟩⟩
 rintro⟨f,v,l1,u_l1⟩ ⟨hp44_1,hp44_2,hp44_3⟩;obtain⟨f1,rfl⟩:∃ q,f=q+1:=⟨f-1,by omega⟩;have e_f1:=hp44_2.trans (E8_.eq_2 _ _ _ _ _);refine kA 6 ?_;refine cD e_f1 (λp46 e47=>?_) (λp77 e78=>?_)
 . refine kA 15 ?_;refine cV e47 R37_ (Pf_ _ _) rfl λr3 hr48 e50 w49=>?_;have hA50:=rise_ok2 (s:=x.D_) (k:=(v:Int)) hs
   (try rw[<- hr48] at hA50)
   refine kB 7 [4] λB53=>?_;refine cV e50 R10_ (Jq_ _) rfl λr4 hr54 e56 w55=>kA 3 ?_;refine cD e56 (λp58 e59=>?_) (λp75 e76=>?_)
   . refine aN [0,1,5,6,7,8,9,10] 13 mixd<|kE [0,1,2] 10 ?_;refine vC 3 rfl (Li_ p _) rfl λw60=>?_;have hB60:=Q3_ p (v:Int) (by first|assumption|exact⟨hpl,by omega,hpn⟩);refine kE [4] 8 ?_;refine vC 5 rfl (Jq_ r3) rfl λw62=>vC 6 rfl (G7_ _) rfl λw63=>?_;have hB63:=J9_ (Dr_ r3);refine kE [7] 5 ?_;refine vE 8 rfl (eC (Rp_ r3) rfl ?_);generalize hr66:Iq_ r3=r5;intro w65;have e67:=e59.trans (C3_ hr66.symm);refine kE [9] 3 ?_;refine vC 10 rfl (H4_ _) rfl λw68=>?_;have hB68:=H9_ (r5.length:Int);refine vE 11 rfl (bsl 5 strc [[114,105,115,101],(Dn_ p (v:Int)),(C0_ (Dr_ r3)),itoB (r5.length:Int)] G_ rfl rfl rfl rfl rfl (λ_=>rfl) rfl (by decide) (by decide) rfl λu70=>?_);refine ve2s 12 rfl (by kernel_rfl) rfl (Uz_ 5 rfl (fcall (i:=0) (j:=1) (Ha_ l1 [[114,105,115,101],(Dn_ p (v:Int)),(C0_ (Dr_ r3)),itoB (r5.length:Int)] (hw:=(by simp only[joinB,List.length_append,List.length_cons,List.length_nil];omega))) rfl rfl rfl rfl rfl rfl rfl ?_));generalize hr71:Dj_ l1 [[114,105,115,101],(Dn_ p (v:Int)),(C0_ (Dr_ r3)),itoB (r5.length:Int)]=r6;intro u72;have e73:=e67.trans (C3_ hr71.symm);have hA73:=Kp_ l1 [[114,105,115,101],(Dn_ p (v:Int)),(C0_ (Dr_ r3)),itoB (r5.length:Int)]
     (try rw[<- hr71.symm] at hA73)
     refine vD<|kC 6 ?_;refine next ⟨f1,(v+1),r6,(u72)⟩ rfl rfl ⟨rfl,trivial⟩ ⟨rfl,rfl,trivial⟩ ?_ ?_
     . (try simp only[]);omega
     exact⟨by (try simp only[]);omega,e73,⟨by omega,by omega⟩⟩
   refine kC 7 ?_;refine next ⟨f1,(v+1),l1,(u_l1)⟩ rfl rfl ⟨rfl,trivial⟩ ⟨rfl,rfl,trivial⟩ ?_ ?_
   . (try simp only[]);omega
   exact⟨by (try simp only[]);omega,e76,⟨by omega,by omega⟩⟩
 refine kA 4 ?_;exact rsn e78 rfl rfl (ple rfl) rfl rfl
abbrev R38_:(List D5_)->PV:=λr=> .sl D5_.pc r
abbrev ty152v143:TI:=⟨.agg [(0,1)],1,24,[.val (.slice none 0 0)]⟩
def tbv143:Tb:=[(3,ty3),(9,ty9),(22,ty22),(24,ty24),(26,ty26),(36,ty36),(43,ty43),(44,ty44),(46,ty46),(47,ty47),(49,ty49),(50,ty50),(52,ty52),(86,ty86),(97,ty97),(99,ty99),(120,ty120),(145,ty145),(152,ty152v143)]
theorem F3_:tbB prog tbv143=true:=by kernel_rfl
theorem Lh_ (p:C_) (place:Int) (x:U_) (hr:RpOk p place x:=by assumption):Fn prog gb 19 [.agg (C_.pc p), .int .i64 place, .agg (U_.pc x)] (.sl strc (Fv_ p place x)):=by
 refine fC func19 F3_ ntmps19 λw N H hG=>?_;have hn0:([]:List Bs).length=0:=rfl;obtain⟨hpo,hpc,hpn,hpr,hbb,hro,hno⟩:=id hr;have hpl:p.places.length<=100000:=by have :=hpo.2.1;omega
 obtain⟨hp1,hp2,hp3,hp4,hp5,hp6,hp7⟩:=id hpo;obtain⟨hx1,hx2,hx3,hx4⟩:=id hpr;have e0:=Fv_.eq_1 p place x;have hc5:=getG (xs:=p.places) (k:=(place).toNat) (by omega);have hz_hc5:=hpn (gt p.places ((place).toNat)) (List.mem_of_getElem? hc5);refine gm F3_ 17 [0,1,2] λB2=>?_;refine q1 (qidx F3_ (place).toNat rfl rfl (by omega) hc5 rfl rfl rfl rfl) rfl λw6=>gm F3_ 6 [3] λB8=>?_;refine O0_ (i:=2) (o:=0) (k:=1) (e:=9) 4 strc rfl (by decide) rfl rfl ?_;refine aN [2,4,5,6,7,8,9,10] 14 mixd<|gX F3_ [0,1,2,3] 10 ?_;refine vC 4 rfl (Td_ ((gt p.places ((place).toNat)).label)) rfl λw9=>?_;have hB9:=ltext_len ((gt p.places ((place).toNat)).label);refine gX F3_ [5,6] 7 ?_;refine vC 7 rfl (Jd_ x.D_) rfl λw11=>?_;have hB11:=Wx_ x.D_ (by assumption);refine vC 8 rfl (H4_ _) rfl λw13=>?_;have hB13:=H9_ (A0_ x.D_);refine gX F3_ [9,10] 3 ?_;refine vC 11 rfl (H4_ _) rfl λw15=>?_;have hB15:=H9_ ((gt p.places ((place).toNat)).bytes);refine vE 12 rfl (bsl 5 strc [[112,108,97,99,101],(gt p.places ((place).toNat)).name,(Fq_ ((gt p.places ((place).toNat)).label)),itoB (A0_ x.D_),itoB ((gt p.places ((place).toNat)).bytes)] F3_ rfl rfl rfl rfl rfl (λ_=>rfl) rfl (by decide) (by decide) rfl λu17=>?_);refine ve2s 13 rfl (by kernel_rfl) rfl (Uz_ 5 rfl (fcall (i:=2) (j:=4) (Ha_ [] [[112,108,97,99,101],(gt p.places ((place).toNat)).name,(Fq_ ((gt p.places ((place).toNat)).label)),itoB (A0_ x.D_),itoB ((gt p.places ((place).toNat)).bytes)] (hw:=(by simp only[joinB,List.length_append,List.length_cons,List.length_nil];omega))) rfl rfl rfl rfl rfl rfl rfl ?_));generalize hr18:Dj_ [] [[112,108,97,99,101],(gt p.places ((place).toNat)).name,(Fq_ ((gt p.places ((place).toNat)).label)),itoB (A0_ x.D_),itoB ((gt p.places ((place).toNat)).bytes)]=r;intro u19;have e20:=e0.trans (C3_ hr18.symm);have hA20:=Kp_ [] [[112,108,97,99,101],(gt p.places ((place).toNat)).name,(Fq_ ((gt p.places ((place).toNat)).label)),itoB (A0_ x.D_),itoB ((gt p.places ((place).toNat)).bytes)]
 (try rw[<- hr18.symm] at hA20)
 refine vD<|gx F3_ 4 ?_;refine ef2 (fcall (i:=2) (j:=4) (Uo_ r x) rfl rfl rfl rfl rfl rfl rfl ?_);generalize hr22:Hf_ r x=r1;intro u23;have e24:=e20.trans (C3_ hr22.symm);have hA24:=tbook_len (t:=r) (x:=x) (by first|assumption|exact hr.2.2.2.1.1)
 (try rw[<- hr22.symm] at hA24)
 refine gx F3_ 6 ?_;refine ef2 (fcall (i:=2) (j:=4) (Ub_ r1 p x) rfl rfl rfl rfl rfl rfl rfl ?_);generalize hr26:Gg_ r1 p x=r2;intro u27;have e28:=e24.trans (C3_ hr26.symm);have hA28:=tstock_len (t:=r1) (p:=p) (x:=x) (by first|assumption|exact hr.2.2.2.1.2.1)
 (try rw[<- hr26.symm] at hA28)
 refine gx F3_ 11 ?_;refine loop (ι:=Nat×Nat×(List Bs)×Value) [1,3,5,6,7,40] [0,1,3] (λ⟨f,v,l,u_l⟩=>[(41, .int .i64 (v:Int))]) (λ⟨f,v,l,u_l⟩=>[(2, .box (B2 2) 152 [.osl 4]),(4, .arr u_l 1 9 strc l)]) (λ⟨f,v,l,u_l⟩=>16-v<f/\Fv_ p place x=Gm_ p place x f v l/\v<=16/\l.length<=100+v) (λ⟨f,v,l,u_l⟩=>f) ⟨(16-0+1),0,r2,(u27)⟩ ⟨rfl,trivial⟩ ⟨rfl,rfl,trivial⟩ ?_ ?_
 . exact⟨Nat.lt_succ_self _,e28,⟨by omega,by omega⟩⟩
 rintro⟨f,v,l,u_l⟩ ⟨hp30_1,hp30_2,hp30_3⟩;obtain⟨f1,rfl⟩:∃ q,f=q+1:=⟨f-1,by omega⟩;have e_f1:=hp30_2.trans (Gm_.eq_2 _ _ _ _ _ _);refine gx F3_ 6 ?_;refine cD e_f1 (λp32 e33=>?_) (λp53 e54=>?_)
 . refine gx F3_ 7 ?_;refine q1 (qaiv1 (λq=> .int .u64 (A16.get x.seen q)) v F3_ rfl rfl underlying47 rfl rfl rfl rfl (by omega) (λ_=>rfl) (bw16 rfl rfl rfl rfl rfl rfl rfl rfl rfl rfl rfl rfl rfl rfl rfl rfl)) rfl λw34=>gx F3_ 10 ?_;refine cD e33 (λp36 e37=>?_) (λp51 e52=>?_)
   . refine gx F3_ 3 ?_;refine cV e37 R33_ (Li_ _ _) rfl λr3 hr38 e40 w39=>?_;have hA40:=Q3_ p (v:Int) (by first|assumption|exact⟨hpl,by omega,hpn⟩)
     (try rw[<- hr38] at hA40)
     refine gx F3_ 1 ?_;refine cV e40 R33_ (G7_ _) rfl λr4 hr42 e44 w43=>?_;have hA44:=J9_ (A16.get x.seen v)
     (try rw[<- hr42] at hA44)
     refine ef (bsl 5 strc [[115,101,101,110],r3,r4] F3_ rfl rfl rfl rfl rfl (λ_=>rfl) rfl (by decide) (by decide) rfl λu46=>?_);refine give 5 rfl<|ef2 (fcall (i:=2) (j:=4) (Ha_ l [[115,101,101,110],r3,r4] (hw:=(by simp only[joinB,List.length_append,List.length_cons,List.length_nil];omega))) rfl rfl rfl rfl rfl rfl rfl ?_);generalize hr47:Dj_ l [[115,101,101,110],r3,r4]=r5;intro u48;have e49:=e44.trans (C3_ hr47.symm);have hA49:=Kp_ l [[115,101,101,110],r3,r4]
     (try rw[<- hr47.symm] at hA49)
     refine gy F3_ 7 ?_;refine next ⟨f1,(v+1),r5,(u48)⟩ rfl rfl ⟨rfl,trivial⟩ ⟨rfl,rfl,trivial⟩ ?_ ?_
     . (try simp only[]);omega
     exact⟨by (try simp only[]);omega,e49,⟨by omega,by omega⟩⟩
   refine gy F3_ 7 ?_;refine next ⟨f1,(v+1),l,(u_l)⟩ rfl rfl ⟨rfl,trivial⟩ ⟨rfl,rfl,trivial⟩ ?_ ?_
   . (try simp only[]);omega
   exact⟨by (try simp only[]);omega,e52,⟨by omega,by omega⟩⟩
 refine gx F3_ 14 ?_;refine loop (ι:=Nat×Nat×(List Bs)×Value) [1,3,5,6,7,56] [0,1,3] (λ⟨f2,v1,l1,u_l1⟩=>[(57, .int .i64 (v1:Int))]) (λ⟨f2,v1,l1,u_l1⟩=>[(2, .box (B2 2) 152 [.osl 4]),(4, .arr u_l1 1 9 strc l1)]) (λ⟨f2,v1,l1,u_l1⟩=>8-v1<f2/\Fv_ p place x=Gn_ p place x f2 v1 l1/\v1<=8/\l1.length<=200+v1) (λ⟨f2,v1,l1,u_l1⟩=>f2) ⟨(8-0+1),0,l,(u_l)⟩ ⟨rfl,trivial⟩ ⟨rfl,rfl,trivial⟩ ?_ ?_
 . exact⟨Nat.lt_succ_self _,e54,⟨by omega,by omega⟩⟩
 rintro⟨f2,v1,l1,u_l1⟩ ⟨hp55_1,hp55_2,hp55_3⟩;obtain⟨f3,rfl⟩:∃ q,f2=q+1:=⟨f2-1,by omega⟩;have e_f3:=hp55_2.trans (Gn_.eq_2 _ _ _ _ _ _);refine gx F3_ 6 ?_;refine cD e_f3 (λp57 e58=>?_) (λp85 e86=>?_)
 . refine gx F3_ 7 ?_;refine q1 (qaivA (λq=>[.int .u64 ((A8.get x.spent q).round), .int .i64 ((A8.get x.spent q).count)]) v1 F3_ rfl rfl underlying50 rfl rfl rfl rfl (by omega) (bw8 rfl rfl rfl rfl rfl rfl rfl rfl)) rfl λw59=>gmy F3_ 21 [5] λB61=>?_;refine q1g [73,74] rfl (λhc=>qidx F3_ v1 rfl rfl rfl (getG (by first|omega|(simp only[gOf,bl2] at *;omega))) rfl rfl rfl rfl) ⟨(λhc=>hc),(λhc=>hc),trivial⟩ rfl rfl rfl λ_=>?_;refine gy F3_ 7 ?_;refine cE e58 (λh62 e70=>?_) (λh62 e84=>?_)
   . have h63:=bl h62;have h64:=bl h63;have p65:=dt h64;have h66:=br h63;have p67:=dt h66;have h68:=br h62;have p69:=dt h68;refine aN [2,4,6,7,8,9,10,11] 16 mixd<|gX F3_ [0,1,2,3] 12 ?_;have hc71:=getG (xs:=p.grants) (k:=v1) (by omega);have hz_hc71:=hp6 (gt p.grants v1) (List.mem_of_getElem? hc71);refine vq 4 (qidx F3_ v1 rfl rfl rfl hc71 rfl rfl rfl rfl) rfl (by kernel_rfl) rfl λw72=>gX F3_ [5,6] 9 ?_;refine vC 7 rfl (Li_ p _) rfl λw73=>?_;have hB73:=Q3_ p ((gt p.grants v1).to') (by first|assumption|exact⟨hpl,by omega,hpn⟩);refine gX F3_ [8,9] 6 ?_;refine vC 10 rfl (G7_ _) rfl λw75=>?_;have hB75:=J9_ ((A8.get x.spent v1).round);refine gX F3_ [11,12] 3 ?_;refine vC 13 rfl (H4_ _) rfl λw77=>?_;have hB77:=H9_ ((A8.get x.spent v1).count);refine vE 14 rfl (bsl 6 strc [[115,112,101,110,116],(Dn_ p ((gt p.grants v1).to')),(C0_ ((A8.get x.spent v1).round)),itoB ((A8.get x.spent v1).count)] F3_ rfl rfl rfl rfl rfl (λ_=>rfl) rfl (by decide) (by decide) rfl λu79=>?_);refine ve2s 15 rfl (by kernel_rfl) rfl (Uz_ 6 rfl (fcall (i:=2) (j:=4) (Ha_ l1 [[115,112,101,110,116],(Dn_ p ((gt p.grants v1).to')),(C0_ ((A8.get x.spent v1).round)),itoB ((A8.get x.spent v1).count)] (hw:=(by simp only[joinB,List.length_append,List.length_cons,List.length_nil];omega))) rfl rfl rfl rfl rfl rfl rfl ?_));generalize hr80:Dj_ l1 [[115,112,101,110,116],(Dn_ p ((gt p.grants v1).to')),(C0_ ((A8.get x.spent v1).round)),itoB ((A8.get x.spent v1).count)]=r6;intro u81;have e82:=e70.trans (C3_ hr80.symm);have hA82:=Kp_ l1 [[115,112,101,110,116],(Dn_ p ((gt p.grants v1).to')),(C0_ ((A8.get x.spent v1).round)),itoB ((A8.get x.spent v1).count)]
     (try rw[<- hr80.symm] at hA82)
     refine vD<|gy F3_ 6 ?_;refine next ⟨f3,(v1+1),r6,(u81)⟩ rfl rfl ⟨rfl,trivial⟩ ⟨rfl,rfl,trivial⟩ ?_ ?_
     . (try simp only[]);omega
     exact⟨by (try simp only[]);omega,e82,⟨by omega,by omega⟩⟩
   refine gy F3_ 7 ?_;refine next ⟨f3,(v1+1),l1,(u_l1)⟩ rfl rfl ⟨rfl,trivial⟩ ⟨rfl,rfl,trivial⟩ ?_ ?_
   . (try simp only[]);omega
   exact⟨by (try simp only[]);omega,e84,⟨by omega,by omega⟩⟩
 refine gx F3_ 9 ?_;refine cV e86 R10_ (Kt_ _) rfl λr7 hr87 e89 w88=>cV e89 R33_ (G7_ _) rfl λr8 hr90 e92 w91=>?_;have hA92:=J9_ r7
 (try rw[<- hr90] at hA92)
 refine ef (bsl 5 strc [[110,111,116,101,115],r8] F3_ rfl rfl rfl rfl rfl (λ_=>rfl) rfl (by decide) (by decide) rfl λu94=>?_);refine give 5 rfl<|ef2 (fcall (i:=2) (j:=4) (Ha_ l1 [[110,111,116,101,115],r8] (hw:=(by simp only[joinB,List.length_append,List.length_cons,List.length_nil];omega))) rfl rfl rfl rfl rfl rfl rfl ?_);generalize hr95:Dj_ l1 [[110,111,116,101,115],r8]=r9;intro u96;have e97:=e92.trans (C3_ hr95.symm);have hA97:=Kp_ l1 [[110,111,116,101,115],r8]
 (try rw[<- hr95.symm] at hA97)
 refine gx F3_ 7 ?_;refine cV e97 R38_ (Lx_ _ (hk:=by omega)) rfl λr10 hr99 e101 w100=>?_;have hA101:=nall_eq x.notes
 (try rw[<- hr99] at hA101)
 have hA102:=congrArg List.length (nall_eq x.notes)
 (try rw[<- hr99] at hA102)
 refine gx F3_ 5 ?_;refine loop (ι:=Nat×(List Bs)×Value) [6,7,106,107] [0,1,3] (λ⟨k,l2,u_l2⟩=>[(108, .int .i64 (k:Int))]) (λ⟨k,l2,u_l2⟩=>[(2, .box (B2 2) 152 [.osl 4]),(4, .arr u_l2 1 9 strc l2)]) (λ⟨k,l2,u_l2⟩=>k<=r10.length/\Fv_ p place x=Er_ (r10.drop k) l2/\l2.length<=300+k) (λ⟨k,l2,u_l2⟩=>r10.length-k) ⟨0,r9,(u96)⟩ ⟨rfl,trivial⟩ ⟨rfl,rfl,trivial⟩ ?_ ?_
 . exact⟨Nat.zero_le _,e101,by omega⟩
 rintro⟨k,l2,u_l2⟩ ⟨hp104_1,hp104_2,hp104_3⟩;refine gx F3_ 6 ?_;refine cn rfl (λp106=>?_) λp115=>?_
 . have e107:=C5_ (f:=λzz=>Er_ zz l2) hp104_2 (Gs_ (by omega)) (Er_.eq_2 _ _ _);have hc108:=getG (xs:=r10) (k:=k) (by omega);have hz_hc108:=(hno (gt r10 k) (by have hm:=List.mem_of_getElem? hc108;first|exact hm|exact Eq.subst (motive:=λl=>(gt r10 k)∈l) (show r10=x.notes.kept by assumption) hm)).1;refine gx F3_ 6 ?_;refine q1 (qidx F3_ k rfl rfl rfl hc108 rfl rfl rfl rfl) rfl λw109=>gm F3_ 5 [5] λB111=>?_;refine aN [4,6,7,8,9,10,11] 8 mixd<|gX F3_ [0,1,2] 5 ?_;refine vC 3 rfl (Uk_ (gt r10 k)) rfl λw112=>vE 4 rfl (bsl 6 strc [(I7_ (gt r10 k))] F3_ rfl rfl rfl rfl rfl (λ_=>rfl) rfl (by decide) (by decide) rfl λu113=>?_);refine vE 5 rfl (app F3_ [(I7_ (gt r10 k))] rfl rfl rfl rfl rfl rfl rfl rfl rfl (src_o rfl rfl) (by first|omega|(simp;omega)) rfl λu114=>?_);refine gX F3_ [6] 1 ?_;refine vT 7 rfl (Jb_ F3_ rfl rfl rfl rfl rfl rfl rfl rfl rfl ?_);refine vD<|gy F3_ 6 ?_;refine next ⟨(k+1),(l2++[(I7_ (gt r10 k))]),(u114)⟩ rfl rfl ⟨rfl,trivial⟩ ⟨rfl,rfl,trivial⟩ ?_ ?_
   . (try simp only[]);omega
   exact⟨by (try simp only[]);omega,e107,(by (try simp only[List.length_append,List.length_cons,List.length_nil]);omega)⟩
 have e116:=C5_ (f:=λzz=>Er_ zz l2) hp104_2 (Gy_ (by omega)) (Er_.eq_1 _);refine gx F3_ 12 ?_;refine givec 4 rfl<|gx F3_ 1 ?_;exact rt1 rfl rfl (Am_ (λr:(List Bs)=> .sl strc r) e116 (ple rfl))
theorem Yt_:Fn prog gb 26 [] (.bool (Nt_)):=by
 refine kG func26 ntmps26 λw N H hG=>?_;have e0:=Nt_.eq_1;refine kA 7 ?_;refine call Yv_ rfl rfl λw1=>kA 4 ?_;exact rt1 rfl rfl (Am_ (λr:Bool=> .bool r) e0 (ple rfl))
abbrev R39_:U_->PV:=λr=> .agg (U_.pc r)
theorem cb67:Ad_ prog 67:=Aa_ func67 (by kernel_rfl) (by kernel_rfl)
theorem Yw_:Fn prog gb 18 [] (.bool (P0_)):=by
 refine kG func18 ntmps18 λw N H hG=>?_;have e0:=P0_.eq_1;refine kA 7 ?_;refine hinl [] G_ func67 rfl ntmps67 cb67 rfl rfl rfl rfl λHc1 hHc1=>?_;refine kB 8 [0] λB3=>?_;refine ef (bsl 1 A3_.pc [(⟨[108,111,119],(⟨0,0⟩:Cq_),500,1⟩:A3_)] G_ rfl rfl rfl rfl rfl (λ_=>rfl) rfl (by decide) (by decide) rfl λu4=>?_);refine ef (bsl 2 i64c [0] G_ rfl rfl rfl rfl rfl (λ_=>rfl) rfl (by decide) (by decide) rfl λu5=>?_);refine give 1 rfl<|give 2 rfl ?_;refine kB 5 [] λ_=>?_;refine inlr rfl rfl rfl trivial<|hinl [] G_ func67 rfl ntmps67 cb67 rfl rfl rfl rfl λHc7 hHc7=>?_;refine kB 8 [1] λB9=>?_;refine ef (bsl 2 A3_.pc [(⟨[108,111,119],(⟨0,0⟩:Cq_),500,1⟩:A3_)] G_ rfl rfl rfl rfl rfl (λ_=>rfl) rfl (by decide) (by decide) rfl λu10=>?_);refine ef (bsl 3 i64c [0] G_ rfl rfl rfl rfl rfl (λ_=>rfl) rfl (by decide) (by decide) rfl λu11=>?_);refine give 2 rfl<|give 3 rfl ?_;refine kB 5 [] λ_=>?_;refine inlr rfl rfl rfl trivial<|cV e0 R21_ (Kk_ (⟨4,1,[(⟨[108,111,119],(⟨0,0⟩:Cq_),500,1⟩:A3_)],[0],[]⟩:C_) _ (hp:=by first|assumption|exact O2_ (by decide +kernel)) (hk:=by first|omega|decide +kernel)) rfl λr hr13 e15 w14=>?_;have hA15:=Mq_ (p:=(⟨4,1,[(⟨[108,111,119],(⟨0,0⟩:Cq_),500,1⟩:A3_)],[0],[]⟩:C_)) (k:=0) (by first|assumption|exact O2_ (by decide +kernel)) (by first|omega|(simp;done)|decide +kernel)
 (try rw[<- hr13] at hA15)
 refine cV e15 R39_ (F6_ _) rfl λr1 hr17 e19 w18=>cV e19 R26_ (Lh_ (⟨4,1,[(⟨[108,111,119],(⟨0,0⟩:Cq_),500,1⟩:A3_)],[0],[]⟩:C_) _ _ (hr:=by exact rp_one (p:=(⟨4,1,[(⟨[108,111,119],(⟨0,0⟩:Cq_),500,1⟩:A3_)],[0],[]⟩:C_)) (k:=0) (r:=r) (x:=r1) hr13 hr17 (O2_ (by decide +kernel)) (by decide +kernel) (by decide +kernel))) rfl λr2 hr20 e22 w21=>kA 5 ?_;refine call Rd_ rfl rfl λw23=>kA 1 ?_;refine callg rfl (λhc=>Yt_) rfl trivial rfl rfl λ_=>kC 3 ?_;refine bcase (((Mh_)&&(Nt_))) (λh24=>?_) (λh24=>?_)
 . have h25:=bl h24;have h26:=br h24;have e27:=e22.trans (condT h24);refine so_rt (t:=10) (p':= .bool true) (ple (congrArg PV.bool h24)) rfl ?_;refine so_rt (t:=11) (p':= .bool true) (ple (congrArg PV.bool h24)) rfl ?_;refine so_rt (t:=12) (p':= .sl strc r2) (ple_gv (show gOf ((Mh_)&&(Nt_)) true=true by rw[h24];rfl)) rfl ?_;refine ungd rfl rfl<|ef (bsl 2 strc [[112,108,97,99,101,32,108,111,119,32,48,32,48,32,53,48,48],[110,111,116,101,115,32,48]] G_ rfl rfl rfl rfl rfl (λ_=>rfl) rfl (by decide) (by decide) rfl λu28=>?_);refine ungd rfl rfl<|ef (calll 2 rfl (eq_Str _ _) rfl rfl rfl λw29=>?_);refine kA 5 ?_;exact rt1 rfl rfl (Am_ (λr:Bool=> .bool r) e27 (ple rfl))
 have e30:=e22.trans (condF h24);refine so_rt (t:=10) (p':= .bool false) (ple (congrArg PV.bool h24)) rfl ?_;refine so_rt (t:=11) (p':= .bool false) (ple (congrArg PV.bool h24)) rfl ?_;refine ungs rfl rfl rfl ?_;refine ungs rfl rfl rfl ?_;refine kA 5 ?_;exact rt1 rfl rfl (Am_ (λr:Bool=> .bool r) e30 (ple rfl))
theorem Rc_ (yes:Bool):Fn prog gb 55 [.bool yes] (.int .u64 (Fg_ yes)):=by
 refine kG func55 ntmps55 λw N H hG=>?_;have e0:=Fg_.eq_1 yes;generalize Fg_ yes=z at e0 ⊢;refine kA 11 ?_;refine cE e0 (λh1 e2=>?_) (λh1 e3=>?_)
 . refine kA 7 ?_;subst e2;exact qr1
 refine kA 8 ?_;subst e3;exact qr1
theorem Un_ (x:M_):Fn prog gb 130 [.agg (M_.pc x)] (.int .u64 (Di_ x)):=by
 refine kG func130 ntmps130 λw N H hG=>?_;have e0:=Di_.eq_1 x;generalize Di_ x=z at e0 ⊢;refine kB 18 [0] λB2=>?_;refine cE e0 (λh3 e4=>?_) (λh3 e8=>?_)
 . refine kA 11 ?_;refine cE e4 (λh5 e6=>?_) (λh5 e7=>?_)
   . have :=Hg_ (1+2);refine kA 13 ?_;subst e6;exact qr1
   refine kA 9 ?_;subst e7;exact qr1
 refine kA 9 ?_;refine cE e8 (λh9 e10=>?_) (λh9 e11=>?_)
 . have :=Hg_ (0+2);refine kA 13 ?_;subst e10;exact qr1
 refine kA 9 ?_;subst e11;exact qr1
theorem Oq_ (n:B7_) (hk:n.kept.length<=1000/\∀ x∈n.kept,x.text.length<=1000:=by assumption):Fn prog gb 58 [.agg (B7_.pc n)] (.str (De_ n)):=by
 refine kG func58 ntmps58 λw N H hG=>?_;have hk1:=hk.1;have e0:=De_.eq_1 n;refine kB 7 [0] λB2=>?_;refine Ii_ (ι:=Nat) [1,2] [0] (λb3=>[(3, .own 1 b3 0)]) (λb3=>[(1, .box b3 134 [.str ((B_ (B_ (⟨[],0⟩:Out) n.total 8) (n.kept.length:Int) 1).s), .int .i64 ((B_ (B_ (⟨[],0⟩:Out) n.total 8) (n.kept.length:Int) 1).err)])]) (λb3=>PV.wf (.agg (Out.pc (B_ (⟨[],0⟩:Out) n.total 8)))/\PV.wf (.agg (Out.pc (B_ (B_ (⟨[],0⟩:Out) n.total 8) (n.kept.length:Int) 1)))) ?_ ?_
 . refine aN [1,2,3,4,5,6,7,8] 11 mixd<|kE [0,1,2] 8 ?_;refine vC 3 rfl (out_Num (⟨[],0⟩:Out) _ _ (by ((try have :=hrl (by assumption));first|omega|(simp[B_,Aq_,Aw_,numK]<;>omega)))) rfl λw4=>?_;refine kE [4,5,6] 4 ?_;refine veL 7 [9] (by kernel_rfl) ⟨⟨_,rfl,?_⟩,⟨_,rfl,?_⟩,trivial⟩
   . refine ej rfl (eqy (qconv G_ rfl rfl rfl rfl (Lj_ (by omega))) rfl λw5=>?_);refine vC 8 rfl (out_Num (B_ (⟨[],0⟩:Out) n.total 8) _ _ (by ((try have :=hrl (by assumption));first|omega|(simp[B_,Aq_,Aw_,numK]<;>omega)))) rfl λw6=>?_;refine vE 9 rfl (aL G_ 1 λb7=>?_);refine vE 10 rfl (sA G_ ?_);refine vD<|nX (b7) ?_ ⟨rfl,trivial⟩ ⟨rfl,trivial⟩;exact⟨w4,w6⟩
   refine ej rfl (aL G_ 1 λb8=>?_);refine vE 7 rfl (eqy (qconv G_ rfl rfl rfl rfl (Lj_ (by omega))) rfl λw9=>?_);refine vC 8 rfl (out_Num (B_ (⟨[],0⟩:Out) n.total 8) _ _ (by ((try have :=hrl (by assumption));first|omega|(simp[B_,Aq_,Aw_,numK]<;>omega)))) rfl λw10=>?_;refine vE 10 rfl (sA G_ ?_);refine vD<|nX (b8) ?_ ⟨rfl,trivial⟩ ⟨rfl,trivial⟩;exact⟨w4,w10⟩
 rintro b3 ⟨w11,w12⟩;have nl0:(⟨[],0⟩:Out).s.length=0:=rfl;have :=R_ (⟨[],0⟩:Out) n.total 8;have :=R_ (B_ (⟨[],0⟩:Out) n.total 8) (n.kept.length:Int) 1;refine kA 11 ?_;refine loop (ι:=Nat×Out) [2,3,16,17] [0] (λ⟨k,x⟩=>[(18, .int .i64 (k:Int))]) (λ⟨k,x⟩=>[(1, .box b3 134 (Out.pc x))]) (λ⟨k,x⟩=>k<=n.kept.length/\De_ n=Bu_ (n.kept.drop k) x/\x.s.length<=16+1100*k) (λ⟨k,x⟩=>n.kept.length-k) ⟨0,(B_ (B_ (⟨[],0⟩:Out) n.total 8) (n.kept.length:Int) 1)⟩ ⟨rfl,trivial⟩ ⟨rfl,trivial⟩ ?_ ?_
 . exact⟨Nat.zero_le _,e0,by omega⟩
 rintro⟨k,x⟩ ⟨hp13_1,hp13_2,hp13_3⟩;refine kA 6 ?_;refine cn rfl (λp15=>?_) λp24=>?_
 . have e16:=C5_ (f:=λzz=>Bu_ zz x) hp13_2 (Gs_ (by omega)) (Bu_.eq_2 _ _ _);have hc17:=getG (xs:=n.kept) (k:=k) (by omega);have hz_hc17:=hk.2 (gt n.kept k) (List.mem_of_getElem? hc17);refine kA 6 ?_;refine kI k hc17 λw18=>?_;refine kB 5 [2] λB20=>?_;refine aN [3,4,5,6,7,8] 12 mixd<|kE [0,1,2] 9 ?_;refine vC 3 rfl (out_Num _ _ _ (by ((try have :=hrl (by assumption));first|omega|(simp[B_,Aq_,Aw_,numK]<;>omega)))) rfl λw21=>?_;have :=R_ x ((gt n.kept k).tick) 8;refine kE [4,5,6] 5 ?_;refine vC 7 rfl (out_Num _ _ _ (by ((try have :=hrl (by assumption));first|omega|(simp[B_,Aq_,Aw_,numK]<;>omega)))) rfl λw22=>?_;have :=R_ (B_ x ((gt n.kept k).tick) 8) ((gt n.kept k).kind) 1;refine kE [8,9] 2 ?_;refine vC 10 rfl (D7_ _ _) rfl λw23=>?_;have :=At_ (B_ (B_ x ((gt n.kept k).tick) 8) ((gt n.kept k).kind) 1) ((gt n.kept k).text);refine vT 11 rfl (sA G_ ?_);refine vD<|kC 6 ?_;refine next ⟨(k+1),(H_ (B_ (B_ x ((gt n.kept k).tick) 8) ((gt n.kept k).kind) 1) ((gt n.kept k).text))⟩ rfl rfl ⟨rfl,trivial⟩ ⟨rfl,trivial⟩ ?_ ?_
   . (try simp only[]);omega
   exact⟨by (try simp only[]);omega,e16,by omega⟩
 have e25:=C5_ (f:=λzz=>Bu_ zz x) hp13_2 (Gy_ (by omega)) (Bu_.eq_1 _);refine kA 8 ?_;refine call (Dz_ _) rfl rfl λw26=>kA 4 ?_;exact rt1 rfl rfl (Am_ (λr:Bs=> .str r) e25 (ple rfl))
theorem Qf_ (x:Bc_) (hk:x.kept.length<=1000:=by assumption):Fn prog gb 132 [.agg (Bc_.pc x)] (.str (By_ x)):=by
 refine kG func132 ntmps132 λw N H hG=>?_;have e0:=By_.eq_1 x;refine kB 7 [0] λB2=>?_;refine Ii_ (ι:=Nat) [1,2] [0] (λb3=>[(3, .own 1 b3 0)]) (λb3=>[(1, .box b3 134 [.str ((B_ (B_ (⟨[],0⟩:Out) x.total 8) (x.kept.length:Int) 1).s), .int .i64 ((B_ (B_ (⟨[],0⟩:Out) x.total 8) (x.kept.length:Int) 1).err)])]) (λb3=>PV.wf (.agg (Out.pc (B_ (⟨[],0⟩:Out) x.total 8)))/\PV.wf (.agg (Out.pc (B_ (B_ (⟨[],0⟩:Out) x.total 8) (x.kept.length:Int) 1)))) ?_ ?_
 . refine aN [1,2,3,4,5,6,7,8] 11 mixd<|kE [0,1,2] 8 ?_;refine vC 3 rfl (out_Num (⟨[],0⟩:Out) _ _ (by ((try have :=hrl (by assumption));first|omega|(simp[B_,Aq_,Aw_,numK]<;>omega)))) rfl λw4=>?_;refine kE [4,5,6] 4 ?_;refine veL 7 [9] (by kernel_rfl) ⟨⟨_,rfl,?_⟩,⟨_,rfl,?_⟩,trivial⟩
   . refine ej rfl (eqy (qconv G_ rfl rfl rfl rfl (Lj_ (by omega))) rfl λw5=>?_);refine vC 8 rfl (out_Num (B_ (⟨[],0⟩:Out) x.total 8) _ _ (by ((try have :=hrl (by assumption));first|omega|(simp[B_,Aq_,Aw_,numK]<;>omega)))) rfl λw6=>?_;refine vE 9 rfl (aL G_ 1 λb7=>?_);refine vE 10 rfl (sA G_ ?_);refine vD<|nX (b7) ?_ ⟨rfl,trivial⟩ ⟨rfl,trivial⟩;exact⟨w4,w6⟩
   refine ej rfl (aL G_ 1 λb8=>?_);refine vE 7 rfl (eqy (qconv G_ rfl rfl rfl rfl (Lj_ (by omega))) rfl λw9=>?_);refine vC 8 rfl (out_Num (B_ (⟨[],0⟩:Out) x.total 8) _ _ (by ((try have :=hrl (by assumption));first|omega|(simp[B_,Aq_,Aw_,numK]<;>omega)))) rfl λw10=>?_;refine vE 10 rfl (sA G_ ?_);refine vD<|nX (b8) ?_ ⟨rfl,trivial⟩ ⟨rfl,trivial⟩;exact⟨w4,w10⟩
 rintro b3 ⟨w11,w12⟩;have nl0:(⟨[],0⟩:Out).s.length=0:=rfl;have :=R_ (⟨[],0⟩:Out) x.total 8;have :=R_ (B_ (⟨[],0⟩:Out) x.total 8) (x.kept.length:Int) 1;refine kA 11 ?_;refine loop (ι:=Nat×Out) [2,3,18,19] [0] (λ⟨k,x1⟩=>[(20, .int .i64 (k:Int))]) (λ⟨k,x1⟩=>[(1, .box b3 134 (Out.pc x1))]) (λ⟨k,x1⟩=>k<=x.kept.length/\By_ x=Cb_ (x.kept.drop k) x1/\x1.s.length<=16+3000*k) (λ⟨k,x1⟩=>x.kept.length-k) ⟨0,(B_ (B_ (⟨[],0⟩:Out) x.total 8) (x.kept.length:Int) 1)⟩ ⟨rfl,trivial⟩ ⟨rfl,trivial⟩ ?_ ?_
 . exact⟨Nat.zero_le _,e0,by omega⟩
 rintro⟨k,x1⟩ ⟨hp13_1,hp13_2,hp13_3⟩;refine kA 6 ?_;refine cn rfl (λp15=>?_) λp24=>?_
 . have e16:=C5_ (f:=λzz=>Cb_ zz x1) hp13_2 (Gs_ (by omega)) (Cb_.eq_2 _ _ _);have hc17:=getG (xs:=x.kept) (k:=k) (by omega);refine kA 6 ?_;refine kI k hc17 λw18=>?_;refine kB 8 [2] λB20=>?_;refine call (Mn_ _) rfl rfl λw21=>?_;have :=F8_ (gt x.kept k);refine kA 10 ?_;refine call (J3_ _ _) rfl rfl λw22=>?_;have :=Ek_ x1 (Bp_ (gt x.kept k));refine kD 8 [] λ_=>?_;refine next ⟨(k+1),(Aq_ x1 (Bp_ (gt x.kept k)))⟩ rfl rfl ⟨rfl,trivial⟩ ⟨rfl,trivial⟩ ?_ ?_
   . (try simp only[]);omega
   exact⟨by (try simp only[]);omega,e16,by omega⟩
 have e25:=C5_ (f:=λzz=>Cb_ zz x1) hp13_2 (Gy_ (by omega)) (Cb_.eq_1 _);refine kA 8 ?_;refine call (Dz_ _) rfl rfl λw26=>kA 4 ?_;exact rt1 rfl rfl (Am_ (λr:Bs=> .str r) e25 (ple rfl))
theorem line_Of_ok (items:List M_) (hi:∀ y∈items,MlOk y.Ab_:=by assumption):Fn prog gb 203 [.sl M_.pc items] (.tup [.agg (Ae_.pc ((Nv_ items).1)), .int .i64 ((Nv_ items).2)]):=by
 refine kG func203 ntmps203 λw N H hG=>?_;have items_l:items.length<=140737488355328:=w.1.1;have e0:=Nv_.eq_1 items;generalize Nv_ items=z at e0 ⊢;refine kB 20 [0,1] λB2=>?_;refine loop (ι:=Nat×Ae_) [2,4,9,10] [0] (λ⟨k,x⟩=>[(11, .int .i64 (k:Int))]) (λ⟨k,x⟩=>[(1, .box (B2 1) 165 (Ae_.pc x))]) (λ⟨k,x⟩=>k<=items.length/\z=Gv_ (items.drop k) x) (λ⟨k,x⟩=>items.length-k) ⟨0,(⟨[]⟩:Ae_)⟩ ⟨rfl,trivial⟩ ⟨rfl,trivial⟩ ?_ ?_
 . exact⟨Nat.zero_le _,e0⟩
 rintro⟨k,x⟩ ⟨hp4_1,hp4_2⟩;refine kA 6 ?_;refine cn rfl (λp6=>?_) λp26=>?_
 . have e7:=C5_ (f:=λzz=>Gv_ zz x) hp4_2 (Gs_ (by omega)) (Gv_.eq_2 _ _ _);have hc8:=getG (xs:=items) (k:=k) (by omega);have hz_hc8:=(hi (gt items k) (List.mem_of_getElem? hc8)).1;refine kA 6 ?_;refine kI k hc8 λw9=>?_;refine kB 9 [2] λB11=>?_;refine cV e7 R2_ (Ng_ _ _) rfl λr hr12 e14 w13=>kB 15 [3] λB16=>?_;refine cN e14 (λp19 e20=>?_) (λp23 e24=>?_)
   . refine kB 15 [] λ_=>?_;subst e20;exact qr2
   refine kD 12 [] λ_=>?_;refine next ⟨(k+1),r.1⟩ rfl rfl ⟨rfl,trivial⟩ ⟨rfl,trivial⟩ ?_ ?_
   . (try simp only[]);omega
   exact⟨by (try simp only[]);omega,e24⟩
 have e27:=C5_ (f:=λzz=>Gv_ zz x) hp4_2 (Gy_ (by omega)) (Gv_.eq_1 _);refine kB 13 [] λ_=>?_;subst e27;exact qr2
abbrev R40_:(List M_)->PV:=λr=> .sl M_.pc r
theorem Ku_ (s:F_) (hs:StkOk s:=by assumption) (hq:RoB s:=by assumption):Fn prog gb 57 [.agg (F_.pc s)] (.str (S_ s)):=by
 refine kG func57 ntmps57 λw N H hG=>?_;have hs8:=hs.1.1;have e0:=S_.eq_1 s;refine kB 7 [0] λB2=>?_;refine Ii_ (ι:=Nat) [1,2] [0] (λb3=>[(3, .own 1 b3 0)]) (λb3=>[(1, .box b3 134 [.str ((B_ (B_ (⟨[],0⟩:Out) s.next 8) (s.rows.length:Int) 1).s), .int .i64 ((B_ (B_ (⟨[],0⟩:Out) s.next 8) (s.rows.length:Int) 1).err)])]) (λb3=>PV.wf (.agg (Out.pc (B_ (⟨[],0⟩:Out) s.next 8)))/\PV.wf (.agg (Out.pc (B_ (B_ (⟨[],0⟩:Out) s.next 8) (s.rows.length:Int) 1)))) ?_ ?_
 . refine aN [1,2,3,4,5,6,7,8] 11 mixd<|kE [0,1,2] 8 ?_;refine vC 3 rfl (out_Num (⟨[],0⟩:Out) _ _ (by ((try have :=hrl (by assumption));first|omega|(simp[B_,Aq_,Aw_,numK]<;>omega)))) rfl λw4=>?_;refine kE [4,5,6] 4 ?_;refine veL 7 [9] (by kernel_rfl) ⟨⟨_,rfl,?_⟩,⟨_,rfl,?_⟩,trivial⟩
   . refine ej rfl (eqy (qconv G_ rfl rfl rfl rfl (Lj_ (by omega))) rfl λw5=>?_);refine vC 8 rfl (out_Num (B_ (⟨[],0⟩:Out) s.next 8) _ _ (by ((try have :=hrl (by assumption));first|omega|(simp[B_,Aq_,Aw_,numK]<;>omega)))) rfl λw6=>?_;refine vE 9 rfl (aL G_ 1 λb7=>?_);refine vE 10 rfl (sA G_ ?_);refine vD<|nX (b7) ?_ ⟨rfl,trivial⟩ ⟨rfl,trivial⟩;exact⟨w4,w6⟩
   refine ej rfl (aL G_ 1 λb8=>?_);refine vE 7 rfl (eqy (qconv G_ rfl rfl rfl rfl (Lj_ (by omega))) rfl λw9=>?_);refine vC 8 rfl (out_Num (B_ (⟨[],0⟩:Out) s.next 8) _ _ (by ((try have :=hrl (by assumption));first|omega|(simp[B_,Aq_,Aw_,numK]<;>omega)))) rfl λw10=>?_;refine vE 10 rfl (sA G_ ?_);refine vD<|nX (b8) ?_ ⟨rfl,trivial⟩ ⟨rfl,trivial⟩;exact⟨w4,w10⟩
 rintro b3 ⟨w11,w12⟩;have nl0:(⟨[],0⟩:Out).s.length=0:=rfl;have :=R_ (⟨[],0⟩:Out) s.next 8;have :=R_ (B_ (⟨[],0⟩:Out) s.next 8) (s.rows.length:Int) 1;refine kA 11 ?_;refine loop (ι:=Nat×Out) [1,2,3,24,25] [0] (λ⟨k,x⟩=>[(26, .int .i64 (k:Int))]) (λ⟨k,x⟩=>[(1, .box b3 134 (Out.pc x))]) (λ⟨k,x⟩=>k<=s.rows.length/\S_ s=Bg_ s (s.rows.drop k) x/\x.s.length<=16+300000*k) (λ⟨k,x⟩=>s.rows.length-k) ⟨0,(B_ (B_ (⟨[],0⟩:Out) s.next 8) (s.rows.length:Int) 1)⟩ ⟨rfl,trivial⟩ ⟨rfl,trivial⟩ ?_ ?_
 . exact⟨Nat.zero_le _,e0,by omega⟩
 rintro⟨k,x⟩ ⟨hp13_1,hp13_2,hp13_3⟩;refine kA 6 ?_;refine cn rfl (λp15=>?_) λp46=>?_
 . have e16:=C5_ (f:=λzz=>Bg_ s zz x) hp13_2 (Gs_ (by omega)) (Bg_.eq_2 _ _ _ _);refine kA 3 ?_;obtain⟨o,e_o,q_o⟩:=Hl_ e16;refine Ii_ (ι:=Out) [1,2,3,24,25,26] [0] (λx1=>[]) (λx1=>[(1, .box b3 134 (Out.pc x1))]) (λx1=>o=x1/\x1.s.length<=16+300000*(k+1)) ?_ ?_
   . have hc17:=getG (xs:=s.rows) (k:=k) (by omega);have hz_hc17:=RwsOk.at hs.1 hc17;have hy_hc17:=Qd_ (hq (gt s.rows k) (List.mem_of_getElem? hc17));refine kA 3 ?_;refine kI k hc17 λw18=>?_;refine kB 6 [2] λB20=>?_;refine aN [3,4,5,6,7,8] 23 mixd<|kE [0,1,2,3] 19 ?_;refine vC 4 rfl (D7_ x _) rfl λw21=>?_;have :=At_ x ((gt s.rows k).q.name);refine kE [5,6,7] 15 ?_;refine vC 8 rfl (out_Num (H_ x ((gt s.rows k).q.name)) _ _ (by ((try have :=hrl (by assumption));first|omega|(simp[B_,Aq_,Aw_,numK]<;>omega)))) rfl λw22=>?_;have :=R_ (H_ x ((gt s.rows k).q.name)) ((gt s.rows k).q.most) 8;refine kE [9,10,11] 11 ?_;refine vC 12 rfl (out_Num (B_ (H_ x ((gt s.rows k).q.name)) ((gt s.rows k).q.most) 8) _ _ (by ((try have :=hrl (by assumption));first|omega|(simp[B_,Aq_,Aw_,numK]<;>omega)))) rfl λw23=>?_;have :=R_ (B_ (H_ x ((gt s.rows k).q.name)) ((gt s.rows k).q.most) 8) ((gt s.rows k).q.life) 8;refine kE [13,14,15] 7 ?_;refine vC 16 rfl (D7_ (B_ (B_ (H_ x ((gt s.rows k).q.name)) ((gt s.rows k).q.most) 8) ((gt s.rows k).q.life) 8) _) rfl λw24=>?_;have :=At_ (B_ (B_ (H_ x ((gt s.rows k).q.name)) ((gt s.rows k).q.most) 8) ((gt s.rows k).q.life) 8) ((gt s.rows k).q.dead);refine kE [17,18] 4 ?_;refine vC 19 rfl (Hx_ ((gt s.rows k).l)) rfl λw25=>kE [20] 2 ?_;refine vC 21 rfl (out_Num (H_ (B_ (B_ (H_ x ((gt s.rows k).q.name)) ((gt s.rows k).q.most) 8) ((gt s.rows k).q.life) 8) ((gt s.rows k).q.dead)) _ _ (by ((try have :=hrl (by assumption));first|omega|(simp[B_,Aq_,Aw_,numK]<;>omega)))) rfl λw26=>?_;have :=R_ (H_ (B_ (B_ (H_ x ((gt s.rows k).q.name)) ((gt s.rows k).q.most) 8) ((gt s.rows k).q.life) 8) ((gt s.rows k).q.dead)) (IntKind.wrap .u64 (A8_ ((gt s.rows k).l))) 1;refine vT 22 rfl (sA G_ ?_);refine vD<|kA 5 ?_;refine cV e_o R40_ (Rl_ _) rfl λr hr27 e29 w28=>?_;have :=all_len hz_hc17
     (try rw[<- hr27] at this)
     refine kA 5 ?_;refine loop (ι:=Nat×Out) [1,2,3,24,25,26,54,55] [0,2] (λ⟨k1,x2⟩=>[(56, .int .i64 (k1:Int))]) (λ⟨k1,x2⟩=>[(1, .box b3 134 (Out.pc x2))]) (λ⟨k1,x2⟩=>k1<=r.length/\o=A7_ (r.drop k1) x2/\x2.s.length<=16+300000*k+100+4000*k1) (λ⟨k1,x2⟩=>r.length-k1) ⟨0,(B_ (H_ (B_ (B_ (H_ x ((gt s.rows k).q.name)) ((gt s.rows k).q.most) 8) ((gt s.rows k).q.life) 8) ((gt s.rows k).q.dead)) (IntKind.wrap .u64 (A8_ ((gt s.rows k).l))) 1)⟩ ⟨rfl,trivial⟩ ⟨rfl,trivial⟩ ?_ ?_
     . exact⟨Nat.zero_le _,e29,by omega⟩
     rintro⟨k1,x2⟩ ⟨hp30_1,hp30_2,hp30_3⟩;refine kA 6 ?_;refine cn rfl (λp32=>?_) λp42=>?_
     . have e33:=C5_ (f:=λzz=>A7_ zz x2) hp30_2 (Gs_ (by omega)) (A7_.eq_2 _ _ _);have hc34:=getG (xs:=r) (k:=k1) (by omega);refine kA 6 ?_;refine kI k1 hc34 λw35=>?_;refine kB 9 [3] λB37=>?_;refine call (Mn_ _) rfl rfl λw38=>?_;have :=F8_ ((gt r k1).Ab_);refine kA 7 ?_;refine aN [4,5,6,7,8,9] 7 mixd<|kE [0,1] 5 ?_;refine vC 2 rfl (Un_ (gt r k1)) rfl λw39=>vC 3 rfl (out_Num x2 _ _ (by ((try have :=hrl (by assumption));first|omega|(simp[B_,Aq_,Aw_,numK]<;>omega)))) rfl λw40=>?_;have :=R_ x2 (Di_ (gt r k1)) 1;refine kE [4] 2 ?_;refine vC 5 rfl (J3_ (B_ x2 (Di_ (gt r k1)) 1) _) rfl λw41=>?_;have :=Ek_ (B_ x2 (Di_ (gt r k1)) 1) (Bp_ ((gt r k1).Ab_));refine vT 6 rfl (sA G_ ?_);refine vD<|kC 6 ?_;refine next ⟨(k1+1),(Aq_ (B_ x2 (Di_ (gt r k1)) 1) (Bp_ ((gt r k1).Ab_)))⟩ rfl rfl ⟨rfl,trivial⟩ ⟨rfl,trivial⟩ ?_ ?_
       . (try simp only[]);omega
       exact⟨by (try simp only[]);omega,e33,by omega⟩
     have e43:=C5_ (f:=λzz=>A7_ zz x2) hp30_2 (Gy_ (by omega)) (A7_.eq_1 _);refine kA 5 ?_;refine nX x2 ?_ trivial ⟨rfl,trivial⟩;exact⟨e43,by omega⟩
   rintro x1 ⟨hp44,hp44_3⟩;have e45:=J1_ q_o hp44;refine kC 5 ?_;refine next ⟨(k+1),x1⟩ rfl rfl ⟨rfl,trivial⟩ ⟨rfl,trivial⟩ ?_ ?_
   . (try simp only[]);omega
   exact⟨by (try simp only[]);omega,e45,by omega⟩
 have e47:=C5_ (f:=λzz=>Bg_ s zz x) hp13_2 (Gy_ (by omega)) (Bg_.eq_1 _ _);refine kB 24 [2] λB49=>?_;refine loop (ι:=Nat×Int×Nat×Out) [2,3,10,75] [0,1] (λ⟨f,many,v,x4⟩=>[(11, .int .u64 many),(76, .int .i64 (v:Int))]) (λ⟨f,many,v,x4⟩=>[(2, .box (B49 0) 134 (Out.pc x4))]) (λ⟨f,many,v,x4⟩=>16-v<f/\S_ s=Cw_ s x f many v x4/\v<=16/\x4.s.length<=60000*v) (λ⟨f,many,v,x4⟩=>f) ⟨(16-0+1),0,0,(⟨[],0⟩:Out)⟩ ⟨rfl,rfl,trivial⟩ ⟨rfl,trivial⟩ ?_ ?_
 . exact⟨Nat.lt_succ_self _,e47,⟨by simp,by simp⟩⟩
 rintro⟨f,many,v,x4⟩ ⟨hp50_1,hp50_2,hp50_3⟩;obtain⟨f1,rfl⟩:∃ q,f=q+1:=⟨f-1,by omega⟩;have e_f1:=hp50_2.trans (Cw_.eq_2 _ _ _ _ _ _);refine kA 6 ?_;refine cD e_f1 (λp52 e53=>?_) (λp69 e70=>?_)
 . refine kA 7 ?_;refine q1 (qaivA (λq=>[.int .u64 ((A16.get s.rises q).total), .sl Mail.pc ((A16.get s.rises q).kept)]) v G_ rfl rfl underlying41 rfl rfl rfl rfl (by omega) (bw16 rfl rfl rfl rfl rfl rfl rfl rfl rfl rfl rfl rfl rfl rfl rfl rfl)) rfl λw54=>kB 8 [3] λB56=>?_;refine cV e53 R10_ (Jq_ _) rfl λr1 hr57 e59 w58=>kA 3 ?_;refine cD e59 (λp61 e62=>?_) (λp67 e68=>?_)
   . refine kA 1 ?_;refine aN [4,5,6,7,8,9] 8 mixd<|kE [0,1,4] 5 ?_;refine vE 2 rfl (eqy (qconv G_ rfl rfl rfl rfl (Lj_ (by omega))) rfl λw63=>?_);refine vC 3 rfl (out_Num x4 _ _ (by ((try have :=hrl (by assumption));first|omega|(simp[B_,Aq_,Aw_,numK]<;>omega)))) rfl λw64=>?_;have :=R_ x4 (v:Int) 1;refine vC 5 rfl (Qf_ (A16.get s.rises v) (hk:=by exact Nat.le_trans (hs.2.1 v (by omega)).1 (by decide))) rfl λw65=>?_;have :=rb_len (hs.2.1 v (by omega));refine vC 6 rfl (J3_ (B_ x4 (v:Int) 1) _) rfl λw66=>?_;have :=Ek_ (B_ x4 (v:Int) 1) (By_ (A16.get s.rises v));refine vT 7 rfl (sA G_ ?_);refine vD ?_;have :=Hg_ (many+1);refine kC 12 ?_;refine next ⟨f1,(IntKind.wrap .u64 (many+1)),(v+1),(Aq_ (B_ x4 (v:Int) 1) (By_ (A16.get s.rises v)))⟩ rfl rfl ⟨rfl,rfl,trivial⟩ ⟨rfl,trivial⟩ ?_ ?_
     . (try simp only[]);omega
     exact⟨by (try simp only[]);omega,e62,⟨by (try simp only[]);omega,by (try simp only[]);omega⟩⟩
   refine kC 7 ?_;refine next ⟨f1,many,(v+1),x4⟩ rfl rfl ⟨rfl,rfl,trivial⟩ ⟨rfl,trivial⟩ ?_ ?_
   . (try simp only[]);omega
   exact⟨by (try simp only[]);omega,e68,⟨by (try simp only[]);omega,by (try simp only[]);omega⟩⟩
 refine kA 6 ?_;refine aN [3,4,5,6,7,8] 8 mixd<|kE [0,1] 6 ?_;refine vC 2 rfl (out_Num x _ _ (by ((try have :=hrl (by assumption));first|omega|(simp[B_,Aq_,Aw_,numK]<;>omega)))) rfl λw71=>?_;have :=R_ x many 1;refine kE [3] 4 ?_;refine vC 4 rfl (Dz_ x4) rfl λw72=>vC 5 rfl (J3_ (B_ x many 1) _) rfl λw73=>?_;have :=Ek_ (B_ x many 1) x4.s;refine vC 6 rfl (Dz_ (Aq_ (B_ x many 1) x4.s)) rfl λw74=>kE [7] 0 ?_;refine vD<|kA 2 ?_;exact rt1 rfl rfl (Am_ (λr:Bs=> .str r) e70 (ple rfl))
theorem cb121:Ad_ prog 121:=Aa_ func121 (by kernel_rfl) (by kernel_rfl)
abbrev ty40v152:TI:=⟨.agg [(0,1),(1,1)],2,32,[.int .u64 0, .val (.slice none 0 0)]⟩
def tbv152:Tb:=[(36,ty36),(38,ty38),(40,ty40v152),(64,ty64)]
theorem Jt_:tbB prog tbv152=true:=by kernel_rfl
theorem Zq_ (i:In):Fm prog gb 121 [] 211 (In.pc i) (.agg (Bc_.pc ((I0_ i).1))) (In.pc ((I0_ i).2)):=by
 refine Qq_ Jt_ func121 rfl ntmps121 rfl cb121 rfl rfl rfl rfl λw wp b N H hG=>?_;have e0:=I0_.eq_1 i;refine gm Jt_ 8 [1] λB2=>?_;refine ef (ecallm (Fc_ _ _) rfl rfl rfl rfl rfl ?_);generalize hr4:Z_ i 8=r;intro w3 w3p;have e5:=e0.trans (C3_ hr4.symm);have :=Bv_ i 8
 (try simp only[hr4] at *)
 refine gm Jt_ 8 [2] λB8=>?_;refine ef (ecallm (Fc_ _ _) rfl rfl rfl rfl rfl ?_);generalize hr10:Z_ r.2 1=r1;intro w9 w9p;have e11:=e5.trans (C3_ hr10.symm);have :=Bv_ r.2 1
 (try simp only[hr10] at *)
 refine gx Jt_ 4 ?_;obtain⟨o,e_o,q_o⟩:=Hl_ e11;refine Ii_ (ι:=In) [0,2,3,4] [1,2] (λx=>[]) (λx=>[(0, .box b 211 (In.pc x))]) (λx=>o=x) ?_ ?_
 . refine gx Jt_ 4 ?_;refine ef (ecallm (Ig_ _) rfl rfl rfl rfl rfl λw13 w13p=>?_);refine gx Jt_ 4 ?_;refine cN e_o (λp16 e17=>?_) (λp19 e20=>?_)
   . refine gx Jt_ 2 ?_;refine nX r1.2 ?_ trivial ⟨rfl,trivial⟩;exact e17
   refine gx Jt_ 7 ?_;refine cD e20 (λp22 e23=>?_) (λp25 e26=>?_)
   . refine gx Jt_ 2 ?_;refine ef (ecallm (Iu_ _ _) rfl rfl rfl rfl rfl λw24 w24p=>?_);refine gx Jt_ 2 ?_;refine nX (Bo_ r1.2 6) ?_ trivial ⟨rfl,trivial⟩;exact e23
   refine gx Jt_ 10 ?_;refine cN e26 (λp29 e30=>?_) (λp33 e34=>?_)
   . refine gx Jt_ 2 ?_;refine ef (ecallm (Iu_ _ _) rfl rfl rfl rfl rfl λw31 w31p=>?_);refine gx Jt_ 2 ?_;refine nX (Bo_ r1.2 7) ?_ trivial ⟨rfl,trivial⟩;exact e30
   refine gx Jt_ 2 ?_;refine nX r1.2 ?_ trivial ⟨rfl,trivial⟩;exact e34
 rintro x hp35;have e36:=J1_ q_o hp35;refine gx Jt_ 8 ?_;refine O0_ (i:=2) (o:=1) (k:=7) (e:=64) 3 Mail.pc rfl (by decide) rfl rfl ?_;refine loop (ι:=Nat×Int×Int×(List Mail)×In×Value) [0,2,3,4] [1] (λ⟨f,k,total,kept,x1,u_kept⟩=>[(5, .int .u64 k)]) (λ⟨f,k,total,kept,x1,u_kept⟩=>[(2, .box (B8 0) 40 [.int .u64 total, .osl 3]),(3, .arr u_kept 7 64 Mail.pc kept),(0, .box b 211 (In.pc x1))]) (λ⟨f,k,total,kept,x1,u_kept⟩=>(r1.1-k).toNat<f/\I0_ i=G8_ r1 f k total kept x1/\0<=k/\k<=255/\(kept.length:Int)=k) (λ⟨f,k,total,kept,x1,u_kept⟩=>f) ⟨((r1.1-0).toNat+1),0,r.1,[],x,(.slice none 0 0)⟩ ⟨rfl,trivial⟩ ⟨rfl,rfl,rfl,trivial⟩ ?_ ?_
 . exact⟨Nat.lt_succ_self _,e36,⟨by simp,by simp,by simp⟩⟩
 rintro⟨f,k,total,kept,x1,u_kept⟩ ⟨hp37_1,hp37_2,hp37_3⟩;obtain⟨f1,rfl⟩:∃ q,f=q+1:=⟨f-1,by omega⟩;have e_f1:=hp37_2.trans (G8_.eq_2 _ _ _ _ _ _);refine gx Jt_ 8 ?_;refine callgm rfl (λhc=>(Ig_ _)) rfl rfl rfl rfl ⟨(λhc=>hc),trivial⟩ rfl rfl λ_=>?_;refine gy Jt_ 4 ?_;refine cE e_f1 (λh38 e43=>?_) (λh38 e50=>?_)
 . have h39:=bl h38;have p40:=dt h39;have h41:=br h38;have p42:=dt h41;refine gx Jt_ 4 ?_;refine aN [0,3,4,5,6,7,8,9] 8 mixd<|gX Jt_ [0,1,2] 5 ?_;refine vE 3 rfl (ecallm (Za_ _) rfl rfl rfl rfl rfl ?_);generalize hr45:Ea_ x1=r2;intro w44 w44p;have e46:=e43.trans (C3_ hr45.symm);have :=Tq_ x1;have :=M6_ x1
   (try simp only[hr45] at *)
   refine vE 4 rfl (bsl 4 Mail.pc [r2.1] Jt_ rfl rfl rfl rfl rfl (λ_=>rfl) rfl (by decide) (by decide) rfl λu48=>?_);refine vE 5 rfl (app Jt_ [r2.1] rfl rfl rfl rfl rfl rfl rfl rfl rfl (src_o rfl rfl) (by first|omega|(simp;omega)) rfl λu49=>?_);refine gX Jt_ [6] 1 ?_;refine vT 7 rfl (Jb_ Jt_ rfl rfl rfl rfl rfl rfl rfl rfl rfl ?_);refine vD ?_;have :=Hg_ (k+1);refine gx Jt_ 7 ?_;refine next ⟨f1,(IntKind.wrap .u64 (k+1)),total,(kept++[r2.1]),r2.2,(u49)⟩ rfl rfl ⟨rfl,trivial⟩ ⟨rfl,rfl,rfl,trivial⟩ ?_ ?_
   . (try simp only[]);omega
   exact⟨(by (try simp only[]);rw[Ck_ (by omega) (by omega)];omega),e46,⟨(by (try simp only[]);rw[Ck_ (by omega) (by omega)];omega),(by (try simp only[]);rw[Ck_ (by omega) (by omega)];omega),(by simp only[List.length_append,List.length_cons,List.length_nil];rw[Ck_ (by omega) (by omega)];omega)⟩⟩
 refine gx Jt_ 9 ?_;refine ef (ecallm (Ig_ _) rfl rfl rfl rfl rfl λw51 w51p=>?_);refine gx Jt_ 3 ?_;refine cN e50 (λp54 e55=>?_) (λp58 e59=>?_)
 . refine gm Jt_ 8 [] λ_=>?_;exact rm1 rfl rfl (Am_ (λr:Bc_×In=> .agg (Bc_.pc r.1)) e55 (F9_ (A_ (ple rfl) (A_ Ar_ A9_)))) rfl rfl rfl (N2_ (λr:Bc_×In=>In.pc r.2) e55 (ples rfl))
 refine gx Jt_ 4 ?_;refine give 3 rfl<|gm Jt_ 5 [] λ_=>?_;exact rm1 rfl rfl (Am_ (λr:Bc_×In=> .agg (Bc_.pc r.1)) e59 (ple rfl)) rfl rfl rfl (N2_ (λr:Bc_×In=>In.pc r.2) e59 (ples rfl))
theorem cb49:Ad_ prog 49:=Aa_ func49 (by kernel_rfl) (by kernel_rfl)
abbrev ty46v153:TI:=⟨.agg [(0,1),(1,1)],2,32,[.int .u64 0, .val (.slice none 0 0)]⟩
def tbv153:Tb:=[(5,ty5),(9,ty9),(36,ty36),(44,ty44),(46,ty46v153),(120,ty120)]
theorem I1_:tbB prog tbv153=true:=by kernel_rfl
theorem Qa_ (i:In):Fm prog gb 49 [] 211 (In.pc i) (.agg (B7_.pc ((Dy_ i).1))) (In.pc ((Dy_ i).2)):=by
 refine Qq_ I1_ func49 rfl ntmps49 rfl cb49 rfl rfl rfl rfl λw wp b N H hG=>?_;have e0:=Dy_.eq_1 i;refine gm I1_ 8 [1] λB2=>?_;refine ef (ecallm (Fc_ _ _) rfl rfl rfl rfl rfl ?_);generalize hr4:Z_ i 8=r;intro w3 w3p;have e5:=e0.trans (C3_ hr4.symm);have :=Bv_ i 8
 (try simp only[hr4] at *)
 refine gm I1_ 8 [2] λB8=>?_;refine ef (ecallm (Fc_ _ _) rfl rfl rfl rfl rfl ?_);generalize hr10:Z_ r.2 1=r1;intro w9 w9p;have e11:=e5.trans (C3_ hr10.symm);have :=Bv_ r.2 1
 (try simp only[hr10] at *)
 refine gx I1_ 4 ?_;obtain⟨o,e_o,q_o⟩:=Hl_ e11;refine Ii_ (ι:=In) [0,2,3,4] [1,2] (λx=>[]) (λx=>[(0, .box b 211 (In.pc x))]) (λx=>o=x) ?_ ?_
 . refine gx I1_ 4 ?_;refine ef (ecallm (Ig_ _) rfl rfl rfl rfl rfl λw13 w13p=>?_);refine gx I1_ 4 ?_;refine cN e_o (λp16 e17=>?_) (λp19 e20=>?_)
   . refine gx I1_ 2 ?_;refine nX r1.2 ?_ trivial ⟨rfl,trivial⟩;exact e17
   refine gx I1_ 7 ?_;refine cD e20 (λp22 e23=>?_) (λp25 e26=>?_)
   . refine gx I1_ 2 ?_;refine ef (ecallm (Iu_ _ _) rfl rfl rfl rfl rfl λw24 w24p=>?_);refine gx I1_ 2 ?_;refine nX (Bo_ r1.2 6) ?_ trivial ⟨rfl,trivial⟩;exact e23
   refine gx I1_ 10 ?_;refine cN e26 (λp29 e30=>?_) (λp33 e34=>?_)
   . refine gx I1_ 2 ?_;refine ef (ecallm (Iu_ _ _) rfl rfl rfl rfl rfl λw31 w31p=>?_);refine gx I1_ 2 ?_;refine nX (Bo_ r1.2 7) ?_ trivial ⟨rfl,trivial⟩;exact e30
   refine gx I1_ 2 ?_;refine nX r1.2 ?_ trivial ⟨rfl,trivial⟩;exact e34
 rintro x hp35;have e36:=J1_ q_o hp35;refine gx I1_ 8 ?_;refine O0_ (i:=2) (o:=1) (k:=3) (e:=120) 3 D5_.pc rfl (by decide) rfl rfl ?_;refine loop (ι:=Nat×Int×Int×(List D5_)×In×Value) [0,2,3,4] [1] (λ⟨f,k,total,kept,x1,u_kept⟩=>[(5, .int .u64 k)]) (λ⟨f,k,total,kept,x1,u_kept⟩=>[(2, .box (B8 0) 46 [.int .u64 total, .osl 3]),(3, .arr u_kept 3 120 D5_.pc kept),(0, .box b 211 (In.pc x1))]) (λ⟨f,k,total,kept,x1,u_kept⟩=>(r1.1-k).toNat<f/\Dy_ i=Ev_ r1 f k total kept x1/\0<=k/\k<=255/\(kept.length:Int)=k) (λ⟨f,k,total,kept,x1,u_kept⟩=>f) ⟨((r1.1-0).toNat+1),0,r.1,[],x,(.slice none 0 0)⟩ ⟨rfl,trivial⟩ ⟨rfl,rfl,rfl,trivial⟩ ?_ ?_
 . exact⟨Nat.lt_succ_self _,e36,⟨by simp,by simp,by simp⟩⟩
 rintro⟨f,k,total,kept,x1,u_kept⟩ ⟨hp37_1,hp37_2,hp37_3⟩;obtain⟨f1,rfl⟩:∃ q,f=q+1:=⟨f-1,by omega⟩;have e_f1:=hp37_2.trans (Ev_.eq_2 _ _ _ _ _ _);refine gx I1_ 8 ?_;refine callgm rfl (λhc=>(Ig_ _)) rfl rfl rfl rfl ⟨(λhc=>hc),trivial⟩ rfl rfl λ_=>?_;refine gy I1_ 4 ?_;refine cE e_f1 (λh38 e43=>?_) (λh38 e62=>?_)
 . have h39:=bl h38;have p40:=dt h39;have h41:=br h38;have p42:=dt h41;refine gx I1_ 7 ?_;refine ef (ecallm (Fc_ _ _) rfl rfl rfl rfl rfl ?_);generalize hr45:Z_ x1 8=r2;intro w44 w44p;have e46:=e43.trans (C3_ hr45.symm);have :=Bv_ x1 8
   (try simp only[hr45] at *)
   refine gx I1_ 1 ?_;refine ef (ecallm (Fc_ _ _) rfl rfl rfl rfl rfl ?_);generalize hr49:Z_ r2.2 1=r3;intro w48 w48p;have e50:=e46.trans (C3_ hr49.symm);have :=Bv_ r2.2 1
   (try simp only[hr49] at *)
   refine q1 (qconv I1_ rfl rfl rfl rfl (rg_u8 (by omega))) rfl λw52=>gm I1_ 8 [4] λB54=>?_;refine ef (ecallm (Ih_ _ _) rfl rfl rfl rfl rfl ?_);generalize hr56:Y_ r3.2 64=r4;intro w55 w55p;have e57:=e50.trans (C3_ hr56.symm);have :=Cv_ r3.2 64
   (try simp only[hr56] at *)
   refine gm I1_ 8 [] λ_=>?_;refine ef (bsl 5 D5_.pc [(⟨r2.1,r3.1,r4.1⟩:D5_)] I1_ rfl rfl rfl rfl rfl (λ_=>rfl) rfl (by decide) (by decide) rfl λu60=>?_);refine ef (app I1_ [(⟨r2.1,r3.1,r4.1⟩:D5_)] rfl rfl rfl rfl rfl rfl rfl rfl rfl (src_o rfl rfl) (by first|omega|(simp;omega)) rfl λu61=>?_);refine gx I1_ 1 ?_;refine ef (Jb_ I1_ rfl rfl rfl rfl rfl rfl rfl rfl rfl ?_);have :=Hg_ (k+1);refine gx I1_ 8 ?_;refine next ⟨f1,(IntKind.wrap .u64 (k+1)),total,(kept++[(⟨r2.1,r3.1,r4.1⟩:D5_)]),r4.2,(u61)⟩ rfl rfl ⟨rfl,trivial⟩ ⟨rfl,rfl,rfl,trivial⟩ ?_ ?_
   . (try simp only[]);omega
   exact⟨(by (try simp only[]);rw[Ck_ (by omega) (by omega)];omega),e57,⟨(by (try simp only[]);rw[Ck_ (by omega) (by omega)];omega),(by (try simp only[]);rw[Ck_ (by omega) (by omega)];omega),(by simp only[List.length_append,List.length_cons,List.length_nil];rw[Ck_ (by omega) (by omega)];omega)⟩⟩
 refine gx I1_ 9 ?_;refine ef (ecallm (Ig_ _) rfl rfl rfl rfl rfl λw63 w63p=>?_);refine gx I1_ 3 ?_;refine cN e62 (λp66 e67=>?_) (λp70 e71=>?_)
 . refine gm I1_ 8 [] λ_=>?_;exact rm1 rfl rfl (Am_ (λr:B7_×In=> .agg (B7_.pc r.1)) e67 (F9_ (A_ (ple rfl) (A_ Ar_ A9_)))) rfl rfl rfl (N2_ (λr:B7_×In=>In.pc r.2) e67 (ples rfl))
 refine gx I1_ 4 ?_;refine give 3 rfl<|gm I1_ 5 [] λ_=>?_;exact rm1 rfl rfl (Am_ (λr:B7_×In=> .agg (B7_.pc r.1)) e71 (ple rfl)) rfl rfl rfl (N2_ (λr:B7_×In=>In.pc r.2) e71 (ples rfl))
theorem O1_ (x:U_) (hx:ImOk x:=by assumption):Fn prog gb 12 [.agg (U_.pc x)] (.str (Cx_ x)):=by
 refine kG func12 ntmps12 λw N H hG=>?_;have hx1:=hx.1.1;have hx2:=hx.1.2.1;have e0:=Cx_.eq_1 x;refine kB 7 [0] λB2=>?_;refine aN [1,2,3,4,5,6] 8 mixd<|kE [0,1,3,4] 4 ?_;refine vE 2 rfl (eC (Ja_ x.book) rfl ?_);generalize hr4:Dd_ x.book=r;intro w3;have e5:=e0.trans (C3_ hr4.symm);have hr4:=hr4.symm;have hA5:=Nd_ x.book
 (try rw[<- hr4] at hA5)
 have hA6:=congrArg List.length (Nd_ x.book)
 (try rw[<- hr4] at hA6)
 have hsh:=shops_f hx.1 hx.2.1
 (try rw[<- hr4] at hsh)
 refine vE 5 rfl (eC (I9_ x.book (hb:=by exact bk_want hx.1 hx.2.1)) rfl ?_);generalize hr9:Cm_ x.book=r1;intro w8;have e10:=e5.trans (C3_ hr9.symm);have hr9:=hr9.symm;have hA10:=Jj_ x.book
 (try rw[<- hr9] at hA10)
 have hA11:=congrArg List.length (Jj_ x.book)
 (try rw[<- hr9] at hA11)
 have hbi:=binds_f hx.1 hx.2.1
 (try rw[<- hr9] at hbi)
 refine kE [6,7] 0 ?_;refine vD<|kA 6 ?_;refine q1 (qconv G_ rfl rfl rfl rfl (Lj_ (by omega))) rfl λw13=>call (out_Num (⟨[],0⟩:Out) _ _ (by ((try have :=hrl (by assumption));first|omega|(simp[B_,Aq_,Aw_,numK]<;>omega)))) rfl rfl λw14=>?_;have nl0:(⟨[],0⟩:Out).s.length=0:=rfl;have :=R_ (⟨[],0⟩:Out) (r.length:Int) 1;refine kB 13 [1] λB16=>?_;refine loop (ι:=Nat×Out) [1,2,4,5,28,29] [0] (λ⟨k,x1⟩=>[(30, .int .i64 (k:Int))]) (λ⟨k,x1⟩=>[(1, .box (B16 0) 134 (Out.pc x1))]) (λ⟨k,x1⟩=>k<=r.length/\Cx_ x=E1_ x r1 (r.drop k) x1/\x1.s.length<=8+100*k) (λ⟨k,x1⟩=>r.length-k) ⟨0,(B_ (⟨[],0⟩:Out) (r.length:Int) 1)⟩ ⟨rfl,trivial⟩ ⟨rfl,trivial⟩ ?_ ?_
 . exact⟨Nat.zero_le _,e10,by omega⟩
 rintro⟨k,x1⟩ ⟨hp17_1,hp17_2,hp17_3⟩;refine kA 6 ?_;refine cn rfl (λp19=>?_) λp28=>?_
 . have e20:=C5_ (f:=λzz=>E1_ x r1 zz x1) hp17_2 (Gs_ (by omega)) (E1_.eq_2 _ _ _ _ _);have hc21:=getG (xs:=r) (k:=k) (by omega);have hy_hc21:=Q5_ (hsh.2 (gt r k) (List.mem_of_getElem? hc21));refine kA 6 ?_;refine kI k hc21 λw22=>?_;refine kB 5 [2] λB24=>?_;refine aN [3,4,5,6,7,8] 12 mixd<|kE [0,1,2] 9 ?_;refine vC 3 rfl (D7_ x1 _) rfl λw25=>?_;have :=At_ x1 ((gt r k).name);refine kE [4,5,6] 5 ?_;refine vC 7 rfl (out_Num (H_ x1 ((gt r k).name)) _ _ (by ((try have :=hrl (by assumption));first|omega|(simp[B_,Aq_,Aw_,numK]<;>omega)))) rfl λw26=>?_;have :=R_ (H_ x1 ((gt r k).name)) ((gt r k).sort) 1;refine kE [8,9] 2 ?_;refine vC 10 rfl (D7_ (B_ (H_ x1 ((gt r k).name)) ((gt r k).sort) 1) _) rfl λw27=>?_;have :=At_ (B_ (H_ x1 ((gt r k).name)) ((gt r k).sort) 1) ((gt r k).to');refine vT 11 rfl (sA G_ ?_);refine vD<|kC 6 ?_;refine next ⟨(k+1),(H_ (B_ (H_ x1 ((gt r k).name)) ((gt r k).sort) 1) ((gt r k).to'))⟩ rfl rfl ⟨rfl,trivial⟩ ⟨rfl,trivial⟩ ?_ ?_
   . (try simp only[]);omega
   exact⟨by (try simp only[]);omega,e20,by omega⟩
 have e29:=C5_ (f:=λzz=>E1_ x r1 zz x1) hp17_2 (Gy_ (by omega)) (E1_.eq_1 _ _ _);refine kA 10 ?_;refine q1 (qconv G_ rfl rfl rfl rfl (Lj_ (by omega))) rfl λw30=>call (out_Num _ _ _ (by ((try have :=hrl (by assumption));first|omega|(simp[B_,Aq_,Aw_,numK]<;>omega)))) rfl rfl λw31=>?_;have :=R_ x1 (r1.length:Int) 1;refine kB 12 [] λ_=>?_;refine loop (ι:=Nat×Out) [1,2,5,51,52] [0] (λ⟨k1,x2⟩=>[(53, .int .i64 (k1:Int))]) (λ⟨k1,x2⟩=>[(1, .box (B16 0) 134 (Out.pc x2))]) (λ⟨k1,x2⟩=>k1<=r1.length/\Cx_ x=Ef_ x (r1.drop k1) x2/\x2.s.length<=1000+1300*k1) (λ⟨k1,x2⟩=>r1.length-k1) ⟨0,(B_ x1 (r1.length:Int) 1)⟩ ⟨rfl,trivial⟩ ⟨rfl,trivial⟩ ?_ ?_
 . exact⟨Nat.zero_le _,e29,by omega⟩
 rintro⟨k1,x2⟩ ⟨hp33_1,hp33_2,hp33_3⟩;refine kA 6 ?_;refine cn rfl (λp35=>?_) λp50=>?_
 . have e36:=C5_ (f:=λzz=>Ef_ x zz x2) hp33_2 (Gs_ (by omega)) (Ef_.eq_2 _ _ _ _);have hc37:=getG (xs:=r1) (k:=k1) (by omega);have hy_hc37:=bib_f (hbi.2 (gt r1 k1) (List.mem_of_getElem? hc37));refine kA 6 ?_;refine kI k1 hc37 λw38=>?_;refine kB 9 [2] λB40=>?_;refine call (Mf_ _) rfl rfl λw41=>?_;have :=Gz_ ((gt r1 k1).want);have :=Gz_ ((gt r1 k1).want);refine kA 7 ?_;refine aN [3,4,5,6,7,8] 21 mixd<|kE [0,1,2] 18 ?_;refine vC 3 rfl (D7_ x2 _) rfl λw42=>?_;have :=At_ x2 ((gt r1 k1).Bb_);refine kE [4,5] 15 ?_;refine vC 6 rfl (D7_ (H_ x2 ((gt r1 k1).Bb_)) _) rfl λw43=>?_;have :=At_ (H_ x2 ((gt r1 k1).Bb_)) ((gt r1 k1).to');refine kE [7,8] 12 ?_;refine vC 9 rfl (Rc_ _) rfl λw44=>vC 10 rfl (out_Num (H_ (H_ x2 ((gt r1 k1).Bb_)) ((gt r1 k1).to')) _ _ (by ((try have :=hrl (by assumption));first|omega|(simp[B_,Aq_,Aw_,numK]<;>omega)))) rfl λw45=>?_;have :=R_ (H_ (H_ x2 ((gt r1 k1).Bb_)) ((gt r1 k1).to')) (Fg_ ((gt r1 k1).up)) 1;refine kE [11,12] 8 ?_;refine vC 13 rfl (D7_ (B_ (H_ (H_ x2 ((gt r1 k1).Bb_)) ((gt r1 k1).to')) (Fg_ ((gt r1 k1).up)) 1) _) rfl λw46=>?_;have :=At_ (B_ (H_ (H_ x2 ((gt r1 k1).Bb_)) ((gt r1 k1).to')) (Fg_ ((gt r1 k1).up)) 1) ((gt r1 k1).key);refine kE [14] 6 ?_;refine vC 15 rfl (J3_ (H_ (B_ (H_ (H_ x2 ((gt r1 k1).Bb_)) ((gt r1 k1).to')) (Fg_ ((gt r1 k1).up)) 1) ((gt r1 k1).key)) _) rfl λw47=>?_;have :=Ek_ (H_ (B_ (H_ (H_ x2 ((gt r1 k1).Bb_)) ((gt r1 k1).to')) (Fg_ ((gt r1 k1).up)) 1) ((gt r1 k1).key)) (Bi_ ((gt r1 k1).want));refine kE [16,17] 3 ?_;refine vC 18 rfl (Rc_ _) rfl λw48=>vC 19 rfl (out_Num (Aq_ (H_ (B_ (H_ (H_ x2 ((gt r1 k1).Bb_)) ((gt r1 k1).to')) (Fg_ ((gt r1 k1).up)) 1) ((gt r1 k1).key)) (Bi_ ((gt r1 k1).want))) _ _ (by ((try have :=hrl (by assumption));first|omega|(simp[B_,Aq_,Aw_,numK]<;>omega)))) rfl λw49=>?_;have :=R_ (Aq_ (H_ (B_ (H_ (H_ x2 ((gt r1 k1).Bb_)) ((gt r1 k1).to')) (Fg_ ((gt r1 k1).up)) 1) ((gt r1 k1).key)) (Bi_ ((gt r1 k1).want))) (Fg_ ((gt r1 k1).all)) 1;refine vT 20 rfl (sA G_ ?_);refine vD<|kC 6 ?_;refine next ⟨(k1+1),(B_ (Aq_ (H_ (B_ (H_ (H_ x2 ((gt r1 k1).Bb_)) ((gt r1 k1).to')) (Fg_ ((gt r1 k1).up)) 1) ((gt r1 k1).key)) (Bi_ ((gt r1 k1).want))) (Fg_ ((gt r1 k1).all)) 1)⟩ rfl rfl ⟨rfl,trivial⟩ ⟨rfl,trivial⟩ ?_ ?_
   . (try simp only[]);omega
   exact⟨by (try simp only[]);omega,e36,by omega⟩
 have e51:=C5_ (f:=λzz=>Ef_ x zz x2) hp33_2 (Gy_ (by omega)) (Ef_.eq_1 _ _);refine kA 9 ?_;refine cV e51 R33_ (Ku_ _ (hs:=by exact hx.2.2.1) (hq:=by exact hx.2.2.2.1)) rfl λr2 hr52 e54 w53=>?_;have hkb:=kb_len hx.2.2.1 hx.2.2.2.1
 (try rw[<- hr52] at hkb)
 refine kA 4 ?_;refine aN [2,3,4,5,6,7] 12 mixd<|kE [0,1,2,5,7,8] 6 ?_;refine vE 3 rfl (eqy (qconv G_ rfl rfl rfl rfl (Lj_ (by omega))) rfl λw55=>?_);refine vC 4 rfl (out_Num x2 _ _ (by ((try have :=hrl (by assumption));first|omega|(simp[B_,Aq_,Aw_,numK]<;>omega)))) rfl λw56=>?_;have :=R_ x2 (r2.length:Int) 4;refine vC 6 rfl (J3_ (B_ x2 (r2.length:Int) 4) _) rfl λw57=>?_;have :=Ek_ (B_ x2 (r2.length:Int) 4) r2;refine vC 9 rfl (Oq_ x.notes (hk:=by exact⟨Nat.le_trans hx.2.2.2.2.1 (by decide),λy hy=>Nat.le_trans (hx.2.2.2.2.2 y hy).1 (by decide)⟩)) rfl λw58=>?_;have :=nb_len hx.2.2.2.2.1 hx.2.2.2.2.2;refine vC 10 rfl (J3_ (Aq_ (B_ x2 (r2.length:Int) 4) r2) _) rfl λw59=>?_;have :=Ek_ (Aq_ (B_ x2 (r2.length:Int) 4) r2) (De_ x.notes);refine vT 11 rfl (sA G_ ?_);refine vD<|kA 10 ?_;refine loop (ι:=Nat×Nat×Out) [1,2,5,99] [0] (λ⟨f,v,x3⟩=>[(100, .int .i64 (v:Int))]) (λ⟨f,v,x3⟩=>[(1, .box (B16 0) 134 (Out.pc x3))]) (λ⟨f,v,x3⟩=>16-v<f/\Cx_ x=Hb_ x f v x3/\v<=16/\x3.s.length<=4000000+8*v) (λ⟨f,v,x3⟩=>f) ⟨(16-0+1),0,(Aq_ (Aq_ (B_ x2 (r2.length:Int) 4) r2) (De_ x.notes))⟩ ⟨rfl,trivial⟩ ⟨rfl,trivial⟩ ?_ ?_
 . exact⟨Nat.lt_succ_self _,e54,⟨by simp,by omega⟩⟩
 rintro⟨f,v,x3⟩ ⟨hp60_1,hp60_2,hp60_3⟩;obtain⟨f1,rfl⟩:∃ q,f=q+1:=⟨f-1,by omega⟩;have e_f1:=hp60_2.trans (Hb_.eq_2 _ _ _ _);refine kA 6 ?_;refine cD e_f1 (λp62 e63=>?_) (λp67 e68=>?_)
 . refine kA 6 ?_;refine q1 (qaiv1 (λq=> .int .u64 (A16.get x.seen q)) v G_ rfl rfl underlying47 rfl rfl rfl rfl (by omega) (λ_=>rfl) (bw16 rfl rfl rfl rfl rfl rfl rfl rfl rfl rfl rfl rfl rfl rfl rfl rfl)) rfl λw64=>kA 6 ?_;refine call (out_Num _ _ _ (by ((try have :=hrl (by assumption));first|omega|(simp[B_,Aq_,Aw_,numK]<;>omega)))) rfl rfl λw65=>?_;have :=R_ x3 (A16.get x.seen v) 8;refine kD 8 [] λ_=>?_;refine next ⟨f1,(v+1),(B_ x3 (A16.get x.seen v) 8)⟩ rfl rfl ⟨rfl,trivial⟩ ⟨rfl,trivial⟩ ?_ ?_
   . (try simp only[]);omega
   exact⟨by (try simp only[]);omega,e63,⟨by (try simp only[]);omega,by (try simp only[]);omega⟩⟩
 refine kA 14 ?_;refine loop (ι:=Nat×Nat×Out) [2,5,108] [0] (λ⟨f2,v1,x4⟩=>[(109, .int .i64 (v1:Int))]) (λ⟨f2,v1,x4⟩=>[(1, .box (B16 0) 134 (Out.pc x4))]) (λ⟨f2,v1,x4⟩=>8-v1<f2/\Cx_ x=Gd_ x f2 v1 x4/\v1<=8/\x4.s.length<=4001000+16*v1) (λ⟨f2,v1,x4⟩=>f2) ⟨(8-0+1),0,x3⟩ ⟨rfl,trivial⟩ ⟨rfl,trivial⟩ ?_ ?_
 . exact⟨Nat.lt_succ_self _,e68,⟨by simp,by omega⟩⟩
 rintro⟨f2,v1,x4⟩ ⟨hp69_1,hp69_2,hp69_3⟩;obtain⟨f3,rfl⟩:∃ q,f2=q+1:=⟨f2-1,by omega⟩;have e_f3:=hp69_2.trans (Gd_.eq_2 _ _ _ _);refine kA 6 ?_;refine cD e_f3 (λp71 e72=>?_) (λp78 e79=>?_)
 . refine kA 6 ?_;refine q1 (qaivA (λq=>[.int .u64 ((A8.get x.spent q).round), .int .i64 ((A8.get x.spent q).count)]) v1 G_ rfl rfl underlying50 rfl rfl rfl rfl (by omega) (bw8 rfl rfl rfl rfl rfl rfl rfl rfl)) rfl λw73=>kB 4 [2] λB75=>?_;refine aN [3,4,5,6,7,8] 9 mixd<|kE [0,1,2] 6 ?_;refine vC 3 rfl (out_Num x4 _ _ (by ((try have :=hrl (by assumption));first|omega|(simp[B_,Aq_,Aw_,numK]<;>omega)))) rfl λw76=>?_;have :=R_ x4 ((A8.get x.spent v1).round) 8;refine kE [4,5,6] 2 ?_;refine vC 7 rfl (out_Num (B_ x4 ((A8.get x.spent v1).round) 8) _ _ (by ((try have :=hrl (by assumption));first|omega|(simp[B_,Aq_,Aw_,numK]<;>omega)))) rfl λw77=>?_;have :=R_ (B_ x4 ((A8.get x.spent v1).round) 8) (IntKind.wrap .u64 ((A8.get x.spent v1).count)) 1;refine vT 8 rfl (sA G_ ?_);refine vD<|kC 6 ?_;refine next ⟨f3,(v1+1),(B_ (B_ x4 ((A8.get x.spent v1).round) 8) (IntKind.wrap .u64 ((A8.get x.spent v1).count)) 1)⟩ rfl rfl ⟨rfl,trivial⟩ ⟨rfl,trivial⟩ ?_ ?_
   . (try simp only[]);omega
   exact⟨by (try simp only[]);omega,e72,⟨by (try simp only[]);omega,by (try simp only[]);omega⟩⟩
 refine kA 8 ?_;refine call (Dz_ _) rfl rfl λw80=>kA 4 ?_;exact rt1 rfl rfl (Am_ (λr:Bs=> .str r) e79 (ple rfl))
theorem cb120:Ad_ prog 120:=Aa_ func120 (by kernel_rfl) (by kernel_rfl)
theorem No_ (s:F_) (i:In) (hs:StkOk s:=by assumption):Fy prog gb 120 (.agg (F_.pc s)) [] 211 (In.pc i) (.agg (F_.pc ((Cf_ s i).1))) (In.pc ((Cf_ s i).2)):=by
 refine fy_cw G_ func120 rfl ntmps120 rfl cb120 rfl rfl rfl rfl λw wp b N H hG=>?_;have e0:=Cf_.eq_1 s i;refine kB 9 [1,2] λB2=>?_;refine ef (ecallm (Ih_ _ _) rfl rfl rfl rfl rfl ?_);generalize hr5:Y_ i 16=r;intro w4 w4p;have e6:=e0.trans (C3_ hr5.symm);have :=Cv_ i 16
 (try simp only[hr5] at *)
 refine kA 1 ?_;refine ef (ecallm (Fc_ _ _) rfl rfl rfl rfl rfl ?_);generalize hr9:Z_ r.2 8=r1;intro w8 w8p;have e10:=e6.trans (C3_ hr9.symm);have :=Bv_ r.2 8
 (try simp only[hr9] at *)
 refine kA 1 ?_;refine ef (ecallm (Fc_ _ _) rfl rfl rfl rfl rfl ?_);generalize hr13:Z_ r1.2 8=r2;intro w12 w12p;have e14:=e10.trans (C3_ hr13.symm);have :=Bv_ r1.2 8
 (try simp only[hr13] at *)
 refine kB 8 [3] λB17=>?_;refine ef (ecallm (Ih_ _ _) rfl rfl rfl rfl rfl ?_);generalize hr19:Y_ r2.2 16=r3;intro w18 w18p;have e20:=e14.trans (C3_ hr19.symm);have :=Cv_ r2.2 16
 (try simp only[hr19] at *)
 refine kB 13 [] λ_=>?_;refine ef (ecallm (Fc_ _ _) rfl rfl rfl rfl rfl ?_);generalize hr24:Z_ r3.2 1=r4;intro w23 w23p;have e25:=e20.trans (C3_ hr24.symm);have :=Bv_ r3.2 1
 (try simp only[hr24] at *)
 refine kA 4 ?_;refine sw_own (t:=6) (k:=9) (e:=68) 4 M_.pc rfl rfl ?_;refine loop (ι:=Nat×(List M_)×Int×In×Value) [1,2,4,5] [1,2,3] (λ⟨f,items,n,x,u_items⟩=>[(6, .osl 4),(7, .int .u64 n)]) (λ⟨f,items,n,x,u_items⟩=>[(4, .arr u_items 9 68 M_.pc items),(0, .box b 211 (In.pc x))]) (λ⟨f,items,n,x,u_items⟩=>(n).toNat<f/\Cf_ s i=A1_ s r r1 r2 r3 f items n x/\0<=n/\(items.length:Int)+n<=255/\∀ y∈items,MlOk y.Ab_) (λ⟨f,items,n,x,u_items⟩=>f) ⟨((r4.1).toNat+1),[],r4.1,r4.2,(.slice none 0 0)⟩ ⟨rfl,rfl,trivial⟩ ⟨rfl,rfl,trivial⟩ ?_ ?_
 . exact⟨Nat.lt_succ_self _,e25,⟨by omega,by (try simp only[List.length_nil]);omega,mls_nil⟩⟩
 rintro⟨f,items,n,x,u_items⟩ ⟨hp27_1,hp27_2,hp27_3⟩;obtain⟨hi1,hi2,hi3⟩:=hp27_3;obtain⟨f1,rfl⟩:∃ q,f=q+1:=⟨f-1,by omega⟩;have e_f1:=hp27_2.trans (A1_.eq_2 _ _ _ _ _ _ _ _ _);refine kA 7 ?_;refine callgm rfl (λhc=>(Ig_ _)) rfl rfl rfl rfl ⟨(λhc=>hc),trivial⟩ rfl rfl λ_=>?_;refine kC 4 ?_;refine cE e_f1 (λh28 e33=>?_) (λh28 e55=>?_)
 . have h29:=bl h28;have p30:=dt h29;have h31:=br h28;have p32:=dt h31;refine kA 7 ?_;refine ef (ecallm (Fc_ _ _) rfl rfl rfl rfl rfl ?_);generalize hr35:Z_ x 1=r5;intro w34 w34p;have e36:=e33.trans (C3_ hr35.symm);have :=Bv_ x 1
   (try simp only[hr35] at *)
   refine kA 6 ?_;refine ef (ecallm (Za_ _) rfl rfl rfl rfl rfl ?_);generalize hr39:Ea_ r5.2=r6;intro w38 w38p;have e40:=e36.trans (C3_ hr39.symm);have :=Tq_ r5.2;have :=M6_ r5.2
   (try simp only[hr39] at *)
   refine kD 31 [5] λB43=>?_;refine cE e40 (λh44 e45=>?_) (λh44 e52=>?_)
   . refine kA 2 ?_;refine ef (ecallm (Iu_ _ _) rfl rfl rfl rfl rfl λw46 w46p=>?_);refine kA 5 ?_;refine ef (bsl 6 M_.pc [(⟨r6.1,decide ((r5.1%2)=1),decide ((r5.1/2)=1)⟩:M_)] G_ rfl rfl rfl rfl rfl (λ_=>rfl) rfl (by decide) (by decide) rfl λu47=>?_);refine ef (app G_ [(⟨r6.1,decide ((r5.1%2)=1),decide ((r5.1/2)=1)⟩:M_)] rfl rfl rfl rfl rfl rfl rfl rfl rfl (src_o rfl rfl) (by first|omega|(simp;omega)) rfl λu48=>?_);have :=Hg_ (n-1);refine kA 9 ?_;refine next ⟨f1,(items++[(⟨r6.1,decide ((r5.1%2)=1),decide ((r5.1/2)=1)⟩:M_)]),(IntKind.wrap .u64 (n-1)),(Bo_ r6.2 4),(u48)⟩ rfl rfl ⟨rfl,rfl,trivial⟩ ⟨rfl,rfl,trivial⟩ ?_ ?_
     . (try simp only[]);omega
     exact⟨(by (try simp only[]);rw[Ck_ (by omega) (by omega)];omega),e45,⟨by (try simp only[]);rw[Ck_ (by omega) (by omega)];omega,by simp only[List.length_append,List.length_cons,List.length_nil];rw[Ck_ (by omega) (by omega)];omega,mls_app (by assumption) (by assumption)⟩⟩
   have h49:=orl h44;have p50:=df h49;have h51:=orr h44;refine kA 5 ?_;refine ef (bsl 6 M_.pc [(⟨r6.1,decide ((r5.1%2)=1),decide ((r5.1/2)=1)⟩:M_)] G_ rfl rfl rfl rfl rfl (λ_=>rfl) rfl (by decide) (by decide) rfl λu53=>?_);refine ef (app G_ [(⟨r6.1,decide ((r5.1%2)=1),decide ((r5.1/2)=1)⟩:M_)] rfl rfl rfl rfl rfl rfl rfl rfl rfl (src_o rfl rfl) (by first|omega|(simp;omega)) rfl λu54=>?_);have :=Hg_ (n-1);refine kA 9 ?_;refine next ⟨f1,(items++[(⟨r6.1,decide ((r5.1%2)=1),decide ((r5.1/2)=1)⟩:M_)]),(IntKind.wrap .u64 (n-1)),r6.2,(u54)⟩ rfl rfl ⟨rfl,rfl,trivial⟩ ⟨rfl,rfl,trivial⟩ ?_ ?_
   . (try simp only[]);omega
   exact⟨(by (try simp only[]);rw[Ck_ (by omega) (by omega)];omega),e52,⟨by (try simp only[]);rw[Ck_ (by omega) (by omega)];omega,by simp only[List.length_append,List.length_cons,List.length_nil];rw[Ck_ (by omega) (by omega)];omega,mls_app (by assumption) (by assumption)⟩⟩
 refine kA 8 ?_;refine give 4 rfl<|cV e55 R2_ (line_Of_ok _) rfl λr7 hr56 e58 w57=>?_;have hA58:=lof_ok (t:=items) (by assumption)
 (try rw[<- hr56] at hA58)
 refine kB 12 [4] λB61=>?_;refine ef (ecallm (Iu_ _ _) rfl rfl rfl rfl rfl λw62 w62p=>?_);refine kA 3 ?_;obtain⟨o,e_o,q_o⟩:=Hl_ e58;refine Ii_ (ι:=In) [1,2,4,5,10] [1,2,3,4] (λx1=>[]) (λx1=>[(0, .box b 211 (In.pc x1))]) (λx1=>o=x1) ?_ ?_
 . refine kA 1 ?_;refine aN [5,6,7,8,9,10] 13 mixd<|kE [0] 12 ?_;refine vC 1 rfl (Hx_ r7.1) rfl λw63=>kF [2,3,4,5,6,7,8,9] 3 ?_;refine vcallg 10 rfl (by kernel_rfl) rfl (λhc=>(Em_ s _)) rfl rfl ⟨(λhc=>hc),(λhc=>hc),trivial⟩ rfl λ_=>kF [11,12] 0 ?_;refine vD<|kA 1 ?_;refine cE e_o (λh64 e65=>?_) (λh64 e71=>?_)
   . refine kA 2 ?_;refine ef (ecallm (Iu_ _ _) rfl rfl rfl rfl rfl λw66 w66p=>?_);refine kA 1 ?_;refine nX (Bo_ (Bo_ x r7.2) 4) ?_ trivial ⟨rfl,trivial⟩;exact e65
   have h67:=orl h64;have p68:=df h67;have h69:=orr h64;have p70:=df h69;refine kA 1 ?_;refine nX (Bo_ x r7.2) ?_ trivial ⟨rfl,trivial⟩;exact e71
 rintro x1 hp72;have e73:=J1_ q_o hp72;refine kA 5 ?_;refine cV e73 R11_ (Jc_ _ (⟨r.1,r1.1,r2.1,r3.1⟩:Q_)) rfl λr8 hr74 e76 w75=>?_;have hA76:=M2_ (q:=(⟨r.1,r1.1,r2.1,r3.1⟩:Q_)) (s:=s) (by first|assumption|exact StOk.stk (by assumption))
 (try rw[<- hr74] at hA76)
 have hmr:=(M2_ (q:=(⟨r.1,r1.1,r2.1,r3.1⟩:Q_)) (s:=s) hs).1.1
 (try rw[<- hr74] at hmr)
 have hmk:=X9_ s (⟨r.1,r1.1,r2.1,r3.1⟩:Q_)
 (try rw[<- hr74] at hmk)
 refine kB 11 [] λ_=>?_;refine ef (ecallm (Iu_ _ _) rfl rfl rfl rfl rfl λw79 w79p=>?_);refine kA 6 ?_;refine ef (ecallm (Ig_ _) rfl rfl rfl rfl rfl λw80 w80p=>?_);refine kA 3 ?_;refine cE e76 (λh81 e83=>?_) (λh81 e90=>?_)
 . have p82:=dt h81;have hfl:=(Ru_ (dt h81)).2;refine kC 7 ?_;refine cV e83 R6_ (Fm_ _ _ _ (hs:=by exact Nat.le_trans (by assumption :StkOk _).1.1 (by decide)) (hk:=by have :=hmk hfl;omega)) rfl λr9 hr84 e86 w85=>?_;have hA86:=Iw_ r8.1 ((r8.1.rows.length:Int)-1) r7.1
   (try rw[<- hr84] at hA86)
   have hwi:=M3_ (s:=r8.1) (k:=((r8.1.rows.length:Int)-1)) (l:=r7.1) (by assumption) (by assumption) (by have :=hmk hfl;omega);refine kB 10 [] λ_=>?_;exact rm1 rfl rfl (Am_ (λr:F_×In=> .agg (F_.pc r.1)) e86 (ple rfl)) rfl rfl rfl (N2_ (λr:F_×In=>In.pc r.2) e86 (ples rfl))
 have p89:=df h81;refine kB 9 [] λ_=>?_;exact rm1 rfl rfl (Am_ (λr:F_×In=> .agg (F_.pc r.1)) e90 (ple rfl)) rfl rfl rfl (N2_ (λr:F_×In=>In.pc r.2) e90 (ples rfl))
theorem Ne_ (text:Bs) (bytes:Int) (hb:bytes<=1000000:=by omega):Fn prog gb 46 [.str text, .int .i64 bytes] (.tup [.agg (F_.pc ((Hj_ text bytes).1)), .int .i64 ((Hj_ text bytes).2)]):=by
 refine kG func46 ntmps46 λw N H hG=>?_;have e0:=Hj_.eq_1 text bytes;generalize Hj_ text bytes=z at e0 ⊢;refine kB 9 [0] λB2=>?_;refine ef (ecallb 1 (Tr_ _) rfl rfl λw3 b4=>?_);refine kA 6 ?_;refine ef (ecallm (Fc_ (⟨text,0⟩) _) rfl rfl rfl rfl rfl ?_);generalize hr6:Z_ (⟨text,0⟩) 8=r;intro w5 w5p;have e7:=e0.trans (C3_ hr6.symm);have :=Bv_ (⟨text,0⟩) 8
 (try simp only[hr6] at *)
 refine kA 1 ?_;refine cV e7 R6_ (N6_ _ _) rfl λr1 hr9 e11 w10=>?_;have hnw:=knew_f r.1 bytes hb
 (try first|rw[<- hr9] at hnw|rw[hr9] at hnw)
 refine kB 8 [2] λB13=>?_;refine ef (ecallm (Fc_ _ _) rfl rfl rfl rfl rfl ?_);generalize hr15:Z_ r.2 1=r2;intro w14 w14p;have e16:=e11.trans (C3_ hr15.symm);have :=Bv_ r.2 1
 (try simp only[hr15] at *)
 refine kA 4 ?_;refine loop (ι:=Nat×Int×In×F_) [0,4,5,6,7] [0] (λ⟨f,n,x,x1⟩=>[(8, .int .u64 n)]) (λ⟨f,n,x,x1⟩=>[(1, .box b4 211 (In.pc x)),(2, .box (B13 0) 43 (F_.pc x1))]) (λ⟨f,n,x,x1⟩=>(n).toNat<f/\z=Fl_ text f n x x1/\(0<=n/\n<=255)/\StkOk x1/\RoB x1) (λ⟨f,n,x,x1⟩=>f) ⟨((r2.1).toNat+1),r2.1,r2.2,r1⟩ ⟨rfl,trivial⟩ ⟨rfl,rfl,trivial⟩ ?_ ?_
 . exact⟨Nat.lt_succ_self _,e16,⟨by omega,hnw.1,hnw.2⟩⟩
 rintro⟨f,n,x,x1⟩ ⟨hp18_1,hp18_2,hp18_3⟩;obtain⟨hi1,hi2,hi3⟩:=hp18_3;obtain⟨f1,rfl⟩:∃ q,f=q+1:=⟨f-1,by omega⟩;have e_f1:=hp18_2.trans (Fl_.eq_2 _ _ _ _ _);refine kA 7 ?_;refine callgm rfl (λhc=>(Ig_ _)) rfl rfl rfl rfl ⟨(λhc=>hc),trivial⟩ rfl rfl λ_=>?_;refine kC 4 ?_;refine cE e_f1 (λh19 e24=>?_) (λh19 e29=>?_)
 . have h20:=bl h19;have p21:=dt h20;have h22:=br h19;have p23:=dt h22;refine kA 7 ?_;refine ef (ecally (No_ _ _) rfl rfl rfl rfl rfl ?_);generalize hr26:Cf_ x1 x=r3;intro w25 w25p;have e27:=e24.trans (C3_ hr26.symm);have hrr:=rrow_ok hi2 hi3 x
   (try first|rw[<- hr26.symm] at hrr|rw[hr26.symm] at hrr)
   have :=Hg_ (n-1);refine kB 9 [] λ_=>?_;refine next ⟨f1,(IntKind.wrap .u64 (n-1)),r3.2,r3.1⟩ rfl rfl ⟨rfl,trivial⟩ ⟨rfl,rfl,trivial⟩ ?_ ?_
   . (try simp only[]);omega
   exact⟨(by (try simp only[]);rw[Ck_ (by omega) (by omega)];omega),e27,⟨(by (try simp only[]);rw[Ck_ (by omega) (by omega)];omega),hrr.1,hrr.2⟩⟩
 refine kA 6 ?_;obtain⟨o,e_o,q_o⟩:=Y7_ e29;refine Ii_ (ι:=In×F_) [0,4,5,6,7] [0] (λ⟨x2,x3⟩=>[]) (λ⟨x2,x3⟩=>[(1, .box b4 211 (In.pc x2)),(2, .box (B13 0) 43 (F_.pc x3))]) (λ⟨x2,x3⟩=>o=(x2,x3)/\StkOk x3/\RoB x3) ?_ ?_
 . refine kA 3 ?_;refine ef (ecallm (Fc_ _ _) rfl rfl rfl rfl rfl ?_);generalize hr31:Z_ x 1=r4;intro w30 w30p;have e32:=e_o.trans (C3_ hr31.symm);have :=Bv_ x 1
   (try simp only[hr31] at *)
   refine kA 4 ?_;refine loop (ι:=Nat×Int×In×F_) [0,4,5,6,7] [0] (λ⟨f2,n1,x4,x5⟩=>[(9, .int .u64 n1)]) (λ⟨f2,n1,x4,x5⟩=>[(1, .box b4 211 (In.pc x4)),(2, .box (B13 0) 43 (F_.pc x5))]) (λ⟨f2,n1,x4,x5⟩=>(n1).toNat<f2/\o=He_ f2 n1 x4 x5/\(0<=n1/\n1<=255)/\StkOk x5/\RoB x5) (λ⟨f2,n1,x4,x5⟩=>f2) ⟨((r4.1).toNat+1),r4.1,r4.2,x1⟩ ⟨rfl,trivial⟩ ⟨rfl,rfl,trivial⟩ ?_ ?_
   . exact⟨Nat.lt_succ_self _,e32,⟨by omega,hi2,hi3⟩⟩
   rintro⟨f2,n1,x4,x5⟩ ⟨hp34_1,hp34_2,hp34_3⟩;obtain⟨hi1,hi2,hi3⟩:=hp34_3;obtain⟨f3,rfl⟩:∃ q,f2=q+1:=⟨f2-1,by omega⟩;have e_f3:=hp34_2.trans (He_.eq_2 _ _ _ _);refine kA 7 ?_;refine callgm rfl (λhc=>(Ig_ _)) rfl rfl rfl rfl ⟨(λhc=>hc),trivial⟩ rfl rfl λ_=>?_;refine kC 4 ?_;refine cE e_f3 (λh35 e40=>?_) (λh35 e57=>?_)
   . have h36:=bl h35;have p37:=dt h36;have h38:=br h35;have p39:=dt h38;refine kA 7 ?_;refine ef (ecallm (Fc_ _ _) rfl rfl rfl rfl rfl ?_);generalize hr42:Z_ x4 1=r5;intro w41 w41p;have e43:=e40.trans (C3_ hr42.symm);have :=Bv_ x4 1
     (try simp only[hr42] at *)
     refine kA 6 ?_;refine ef (ecallm (Zq_ _) rfl rfl rfl rfl rfl ?_);generalize hr46:I0_ r5.2=r6;intro w45 w45p;have e47:=e43.trans (C3_ hr46.symm);have hri:=rread_ok r5.2
     (try first|rw[<- hr46.symm] at hri|rw[hr46.symm] at hri)
     refine kB 11 [3] λB49=>?_;refine cD e47 (λp51 e52=>?_) (λp54 e55=>?_)
     . refine kA 3 ?_;refine ef (ecallm (Iu_ _ _) rfl rfl rfl rfl rfl λw53 w53p=>?_);refine kA 8 ?_;refine nX ⟨(Bo_ r6.2 4),x5⟩ ?_ trivial ⟨rfl,rfl,trivial⟩;exact⟨e52,⟨hi2,hi3⟩⟩
     refine kA 6 ?_;refine q1 (qaia (r5.1).toNat rfl rfl underlying41 sz40 (by omega) (by omega)) rfl λw56=>ef (Sa_ (sz:=2) (len:=16) (λq=>F_.pc (⟨x5.next,x5.bytes,x5.rows,(A16.set x5.rises r6.1 q)⟩:F_)) ((r5.1).toNat) 3 2 0 G_ rfl rfl rfl rfl rfl rfl rfl rfl rfl (by omega) (bw16 rfl rfl rfl rfl rfl rfl rfl rfl rfl rfl rfl rfl rfl rfl rfl rfl) rfl (bw16 rfl rfl rfl rfl rfl rfl rfl rfl rfl rfl rfl rfl rfl rfl rfl rfl) rfl ?_);have :=Hg_ (n1-1);refine kA 8 ?_;refine next ⟨f3,(IntKind.wrap .u64 (n1-1)),r6.2,(⟨x5.next,x5.bytes,x5.rows,(A16.set x5.rises r6.1 ((r5.1).toNat))⟩:F_)⟩ rfl rfl ⟨rfl,trivial⟩ ⟨rfl,rfl,trivial⟩ ?_ ?_
     . (try simp only[]);omega
     exact⟨(by (try simp only[]);rw[Ck_ (by omega) (by omega)];omega),e55,⟨(by (try simp only[]);rw[Ck_ (by omega) (by omega)];omega),hi2.set _ (by omega) hri,hi3⟩⟩
   refine kA 4 ?_;refine nX ⟨x4,x5⟩ ?_ trivial ⟨rfl,rfl,trivial⟩;exact⟨e57,⟨hi2,hi3⟩⟩
 rintro⟨x2,x3⟩ ⟨hp58,hp58_3⟩;have e59:=lt2_fin q_o hp58;refine kA 5 ?_;refine ef (ecallm (in_End _) rfl rfl rfl rfl rfl λw60 w60p=>?_);refine kA 3 ?_;refine callg rfl (λhc=>(Ln_ _ (hs:=by exact (by assumption :StkOk _/\RoB _).1))) rfl ⟨(λhc=>hc),trivial⟩ rfl rfl λ_=>kC 4 ?_;refine callg rfl (λhc=>(Ku_ _ (hs:=by exact (by assumption :StkOk _/\RoB _).1) (hq:=by exact (by assumption :StkOk _/\RoB _).2))) rfl ⟨(λhc=>hc),trivial⟩ rfl rfl λ_=>kC 5 ?_;refine cE e59 (λh61 e62=>?_) (λh61 e73=>?_)
 . refine kB 9 [] λ_=>?_;subst e62;exact qr2
 have h64:=orl h61;have h65:=orl h64;have h66:=Eu_ h65;have p67:=dt h66;have h68:=orr h64;have p69:=df h68;have h70:=orr h61;have h71:=Eu_ h70;have p72:=dt h71;refine kB 10 [] λ_=>?_;subst e73;exact qr2
theorem ag35:Ag prog 35 true:=λw=>by kernel_rfl
theorem cb51:Ad_ prog 51:=Aa_ func51 (by kernel_rfl) (by kernel_rfl)
theorem sz35:Sz prog 35 2:=λw=>by kernel_rfl
theorem Hi_ (r:RdR) (s:E_) (queues:List Q_) (hs:StOk s:=by assumption) (hd:∀ d∈r.Hk_,DdG d:=by assumption):Fm prog gb 51 [.agg (E_.pc s), .sl Q_.pc queues] 125 (RdR.pc r) (.tup [.agg (Ap_.pc ((As_ r s queues).1)), .bool ((As_ r s queues).2.1)]) (RdR.pc ((As_ r s queues).2.2)):=by
 refine Qq_ G_ func51 rfl ntmps51 rfl cb51 rfl rfl rfl rfl λw wp b N H hG=>?_;have queues_l:queues.length<=140737488355328:=w.2.1.1;have r_deeds_l:r.Hk_.length<=140737488355328:=wp.2.1.1;have e0:=As_.eq_1 r s queues;refine kB 16 [1,2] λB2=>?_;refine loop (ι:=Nat×E_) [0,4,6,7,16,17] [0,2] (λ⟨k,x⟩=>[(18, .int .i64 (k:Int))]) (λ⟨k,x⟩=>[(1, .box (B2 0) 54 (E_.pc x))]) (λ⟨k,x⟩=>k<=queues.length/\As_ r s queues=Bf_ r (queues.drop k) x/\StOk x) (λ⟨k,x⟩=>queues.length-k) ⟨0,s⟩ ⟨rfl,trivial⟩ ⟨rfl,trivial⟩ ?_ ?_
 . exact⟨Nat.zero_le _,e0,hs⟩
 rintro⟨k,x⟩ ⟨hp4_1,hp4_2,hp4_3⟩;refine kA 6 ?_;refine cn rfl (λp6=>?_) λp17=>?_
 . have e7:=C5_ (f:=λzz=>Bf_ r zz x) hp4_2 (Gs_ (by omega)) (Bf_.eq_2 _ _ _ _);have hc8:=getG (xs:=queues) (k:=k) (by omega);refine kA 6 ?_;refine kI k hc8 λw9=>?_;refine kB 9 [3] λB11=>?_;refine cV e7 R22_ (Gh_ _ (⟨2,0,(⟨[],0,[]⟩:W_),(gt queues k),(⟨[],[],false,[],[],false⟩:P_),[],0,0,0,0,0,(⟨0,[],[],[],[],0,0⟩:Mail),[]⟩:L_) (hd:=by first|assumption|exact (ddq _).1)) rfl λr1 hr12 e14 w13=>?_;have hA14:=V5_ (s:=x) (d:=(⟨2,0,(⟨[],0,[]⟩:W_),(gt queues k),(⟨[],[],false,[],[],false⟩:P_),[],0,0,0,0,0,(⟨0,[],[],[],[],0,0⟩:Mail),[]⟩:L_)) (by assumption) (by first|assumption|exact dd1 (by decide +kernel)|exact⟨by first|(simp;done)|omega,by first|(simp;done)|omega,by first|(simp;done)|((try dsimp only);omega),by first|(simp;done)|((try dsimp only);omega)⟩) (by first|assumption|omega|(dsimp only;omega)|decide +kernel)
   (try rw[<- hr12] at hA14)
   refine kD 12 [] λ_=>?_;refine next ⟨(k+1),r1.1⟩ rfl rfl ⟨rfl,trivial⟩ ⟨rfl,trivial⟩ ?_ ?_
   . (try simp only[]);omega
   exact⟨by (try simp only[]);omega,e14,by assumption⟩
 have e18:=C5_ (f:=λzz=>Bf_ r zz x) hp4_2 (Gy_ (by omega)) (Bf_.eq_1 _ _);refine kA 17 ?_;refine loop (ι:=Nat×E_) [4,6,34,35] [0,2] (λ⟨k1,x1⟩=>[(36, .int .i64 (k1:Int))]) (λ⟨k1,x1⟩=>[(1, .box (B2 0) 54 (E_.pc x1))]) (λ⟨k1,x1⟩=>k1<=r.Hk_.length/\As_ r s queues=Aj_ r (r.Hk_.drop k1) x1/\StOk x1) (λ⟨k1,x1⟩=>r.Hk_.length-k1) ⟨0,x⟩ ⟨rfl,trivial⟩ ⟨rfl,trivial⟩ ?_ ?_
 . exact⟨Nat.zero_le _,e18,by assumption⟩
 rintro⟨k1,x1⟩ ⟨hp19_1,hp19_2,hp19_3⟩;refine kA 6 ?_;refine cn rfl (λp21=>?_) λp49=>?_
 . have e22:=C5_ (f:=λzz=>Aj_ r zz x1) hp19_2 (Gs_ (by omega)) (Aj_.eq_2 _ _ _ _);have hc23:=getG (xs:=r.Hk_) (k:=k1) (by omega);have hd_hc23:=hd (gt r.Hk_ k1) (List.mem_of_getElem? hc23);have hdo_hc23:=hd_hc23.1;have hdh_hc23:=hd_hc23.2.2.2.1;refine kA 6 ?_;refine kI k1 hc23 λw24=>?_;refine kB 8 [3] λB26=>?_;refine cV e22 R39_ (F6_ _) rfl λr2 hr27 e29 w28=>q1 (qfA rfl underlying52 rfl ag35 sz35 rfl) rfl λw30=>kB 8 [4] λB32=>?_;refine cV e29 R22_ (Gh_ _ _ (hd:=by first|assumption|exact (ddq _).1)) rfl λr3 hr33 e35 w34=>?_;have hA35:=V5_ (s:=x1) (d:=(gt r.Hk_ k1)) (by assumption) (by first|assumption|exact dd1 (by decide +kernel)|exact⟨by first|(simp;done)|omega,by first|(simp;done)|omega,by first|(simp;done)|((try dsimp only);omega),by first|(simp;done)|((try dsimp only);omega)⟩) (by first|assumption|omega|(dsimp only;omega)|decide +kernel)
   (try rw[<- hr33] at hA35)
   refine kB 13 [5,6] λB38=>?_;refine aN [7,8,9,10,11,12] 9 mixd<|kE [0,1,2,3,4] 4 ?_;refine vE 5 rfl (ecallg rfl (λhc=>(F6_ r3.1)) rfl ⟨(λhc=>hc),trivial⟩ rfl rfl λ_=>?_);refine vqg 6 [55] rfl (by kernel_rfl) rfl rfl (λhc=>qfA rfl underlying52 rfl ag35 sz35 rfl) ⟨(λhc=>hc),trivial⟩ rfl λ_=>vcallg 7 rfl (by kernel_rfl) rfl (λhc=>(Xd_ r2.book ((Af_ r3.1).book))) rfl rfl ⟨(λhc=>hc),(λhc=>hc),trivial⟩ rfl λ_=>kF [8] 0 ?_;refine vD<|kA 1 ?_;refine cE e35 (λh40 e41=>?_) (λh40 e47=>?_)
   . refine kB 14 [] λ_=>?_;exact rm2 rfl rfl (Am_ (λr:Ap_×Bool×RdR=> .tup [.agg (Ap_.pc r.1), .bool r.2.1]) e41 (ple rfl)) rfl rfl rfl (N2_ (λr:Ap_×Bool×RdR=>RdR.pc r.2.2) e41 (ples rfl))
   have h43:=orl h40;have h44:=Eu_ h43;have p45:=dt h44;have h46:=orr h40;refine kD 12 [] λ_=>?_;refine next ⟨(k1+1),r3.1⟩ rfl rfl ⟨rfl,trivial⟩ ⟨rfl,trivial⟩ ?_ ?_
   . (try simp only[]);omega
   exact⟨by (try simp only[]);omega,e47,by assumption⟩
 have e50:=C5_ (f:=λzz=>Aj_ r zz x1) hp19_2 (Gy_ (by omega)) (Aj_.eq_1 _ _);refine kA 8 ?_;refine cV e50 R39_ (F6_ _) rfl λr4 hr51 e53 w52=>q1 (qfA rfl underlying52 rfl ag35 sz35 rfl) rfl λw54=>kB 5 [] λ_=>?_;exact rm2 rfl rfl (Am_ (λr:Ap_×Bool×RdR=> .tup [.agg (Ap_.pc r.1), .bool r.2.1]) e53 (ple rfl)) rfl rfl rfl (N2_ (λr:Ap_×Bool×RdR=>RdR.pc r.2.2) e53 (ples rfl))
theorem cb45:Ad_ prog 45:=Aa_ func45 (by kernel_rfl) (by kernel_rfl)
abbrev ty122:TI:=⟨.oth,1,8,[.val (.pointer none)]⟩
abbrev ty125v156:TI:=⟨.agg [(0,1),(1,1)],2,32,[.val (.pointer none), .val (.slice none 0 0)]⟩
def tbv156:Tb:=[(3,ty3),(4,ty4),(5,ty5),(9,ty9),(22,ty22),(26,ty26),(27,ty27),(35,ty35),(36,ty36),(43,ty43),(49,ty49),(52,ty52),(57,ty57),(60,ty60),(62,ty62),(66,ty66),(99,ty99),(122,ty122),(125,ty125v156)]
theorem A5_:tbB prog tbv156=true:=by kernel_rfl
theorem Pu_ (text:Bs) (p:C_) (place:Int) (hp:PoOk p:=by assumption) (hk:0<=place/\place<p.places.length:=by omega):Fn prog gb 11 [.str text, .agg (C_.pc p), .int .i64 place] (.tup [.agg (U_.pc ((Fy_ text p place).1)), .int .i64 ((Fy_ text p place).2)]):=by
 refine fC func11 A5_ ntmps11 λw N H hG=>?_;have e0:=Fy_.eq_1 text p place;generalize Fy_ text p place=z at e0 ⊢;refine gm A5_ 10 [0,1] λB2=>?_;refine ef (ecallb 2 (Tr_ _) rfl rfl λw4 b5=>?_);refine gm A5_ 8 [3] λB7=>?_;refine hinl [] A5_ func45 rfl ntmps45 cb45 rfl rfl rfl rfl λHc8 hHc8=>?_;refine gx A5_ 7 ?_;refine ef (ecallm (Fc_ (⟨text,0⟩) _) rfl rfl rfl rfl rfl ?_);generalize hr10:Z_ (⟨text,0⟩) 1=r;intro w9 w9p;have e11:=e0.trans (C3_ hr10.symm);have :=Bv_ (⟨text,0⟩) 1;have hz_13:EqN (⟨text,0⟩) 1 r:=(hr10.symm).symm
 (try simp only[hr10] at *)
 refine gx A5_ 4 ?_;refine O0_ (i:=3) (o:=1) (k:=29) (e:=66) 4 L_.pc rfl (by decide) rfl rfl ?_;refine loop (ι:=Nat×Int×In×(List L_)×Value) [0] [0,1] (λ⟨f,n,x,Hk_,u_deeds⟩=>[(2, .int .u64 n)]) (λ⟨f,n,x,Hk_,u_deeds⟩=>[(2, .box b5 211 (In.pc x)),(3, .box (B7 0) 125 [.own 2 b5 0, .osl 4]),(4, .arr u_deeds 29 66 L_.pc Hk_)]) (λ⟨f,n,x,Hk_,u_deeds⟩=>(n).toNat<f/\z=E4_ text p place f n x Hk_/\(0<=n/\n<=255/\(Hk_.length:Int)+n<=255)/\DdsG x Hk_/\True) (λ⟨f,n,x,Hk_,u_deeds⟩=>f) ⟨((r.1).toNat+1),r.1,r.2,[],(.slice none 0 0)⟩ ⟨rfl,trivial⟩ ⟨rfl,rfl,rfl,trivial⟩ ?_ ?_
 . exact⟨Nat.lt_succ_self _,e11,⟨⟨by omega,by omega,by (try simp only[List.length_nil]);omega⟩,dds_nil _,trivial⟩⟩
 rintro⟨f,n,x,Hk_,u_deeds⟩ ⟨hp14_1,hp14_2,hp14_3⟩;obtain⟨hi1,hi2,hi3⟩:=hp14_3;obtain⟨f1,rfl⟩:∃ q,f=q+1:=⟨f-1,by omega⟩;have e_f1:=hp14_2.trans (E4_.eq_2 _ _ _ _ _ _ _);refine gy A5_ 10 ?_;refine callgm rfl (λhc=>(Ig_ _)) rfl rfl rfl rfl ⟨(λhc=>hc),trivial⟩ rfl rfl λ_=>?_;refine gy A5_ 4 ?_;refine cE e_f1 (λh15 e20=>?_) (λh15 e53=>?_)
 . have h16:=bl h15;have p17:=dt h16;have h18:=br h15;have p19:=dt h18;refine gx A5_ 5 ?_;refine Ii_ (ι:=Nat) [0,2] [0,1,3,4] (λb21=>[(3, .own 5 b21 0)]) (λb21=>[(2, .box b5 211 [.str ((((Z_ (((Y_ x 16)).2) 1)).2).s), .int .i64 ((((Z_ (((Y_ x 16)).2) 1)).2).err)]),(5, .box b21 57 [.str (((Y_ x 16)).1), .int .u8 (((Z_ (((Y_ x 16)).2) 1)).1), .str []])]) (λb21=>PV.wf (.str (((Y_ x 16)).1))/\PV.wfs (In.pc (((Y_ x 16)).2))/\PV.wf (.int .u64 (((Z_ (((Y_ x 16)).2) 1)).1))/\PV.wfs (In.pc (((Z_ (((Y_ x 16)).2) 1)).2))) ?_ ?_
   . refine aN [2,5,6,7,8,9,10,11,12] 14 mixd<|gX A5_ [0,1,2,3,5,6,7,8] 6 ?_;refine veL 4 [12] (by kernel_rfl) ⟨⟨_,rfl,?_⟩,⟨_,rfl,?_⟩,trivial⟩
     . refine ej rfl (ecallm (Ih_ _ _) rfl rfl rfl rfl rfl λw22 w22p=>?_);have :=Cv_ x 16;refine veL 9 [12] (by kernel_rfl) ⟨⟨_,rfl,?_⟩,⟨_,rfl,?_⟩,trivial⟩
       . refine ej rfl (ecallm (Fc_ _ _) rfl rfl rfl rfl rfl λw23 w23p=>?_);have :=Bv_ (((Y_ x 16)).2) 1;refine veL 10 [12] (by kernel_rfl) ⟨⟨_,rfl,?_⟩,⟨_,rfl,?_⟩,trivial⟩
         . refine ej rfl (eqy (qconv A5_ rfl rfl rfl rfl (rg_u8 (by omega))) rfl λw24=>?_);refine gX A5_ [11] 2 ?_;refine vE 12 rfl (aL A5_ 5 λb25=>?_);refine vE 13 rfl (sA A5_ ?_);refine vD<|nX (b25) ?_ ⟨rfl,trivial⟩ ⟨rfl,rfl,trivial⟩;exact⟨w22,w22p,w23,w23p⟩
         refine ej rfl (aL A5_ 5 λb26=>?_);refine vE 10 rfl (eqy (qconv A5_ rfl rfl rfl rfl (rg_u8 (by omega))) rfl λw27=>?_);refine gX A5_ [11] 1 ?_;refine vE 13 rfl (sA A5_ ?_);refine vD<|nX (b26) ?_ ⟨rfl,trivial⟩ ⟨rfl,rfl,trivial⟩;exact⟨w22,w22p,w23,w23p⟩
       refine ej rfl (aL A5_ 5 λb28=>?_);refine vE 9 rfl (ecallm (Fc_ _ _) rfl rfl rfl rfl rfl λw29 w29p=>?_);have :=Bv_ (((Y_ x 16)).2) 1;refine vE 10 rfl (eqy (qconv A5_ rfl rfl rfl rfl (rg_u8 (by omega))) rfl λw30=>?_);refine gX A5_ [11] 1 ?_;refine vE 13 rfl (sA A5_ ?_);refine vD<|nX (b28) ?_ ⟨rfl,trivial⟩ ⟨rfl,rfl,trivial⟩;exact⟨w22,w22p,w29,w29p⟩
     refine ej rfl (aL A5_ 5 λb31=>?_);refine vE 4 rfl (ecallm (Ih_ _ _) rfl rfl rfl rfl rfl λw32 w32p=>?_);have :=Cv_ x 16;refine vE 9 rfl (ecallm (Fc_ _ _) rfl rfl rfl rfl rfl λw33 w33p=>?_);have :=Bv_ (((Y_ x 16)).2) 1;refine vE 10 rfl (eqy (qconv A5_ rfl rfl rfl rfl (rg_u8 (by omega))) rfl λw34=>?_);refine gX A5_ [11] 1 ?_;refine vE 13 rfl (sA A5_ ?_);refine vD<|nX (b31) ?_ ⟨rfl,trivial⟩ ⟨rfl,rfl,trivial⟩;exact⟨w32,w32p,w33,w33p⟩
   generalize hr35:Y_ x 16=r1;generalize hr36:Z_ ((r1).2) 1=r2;rintro b21 ⟨w37,w38,w39,w40⟩;have e41:=e20.trans (C3_ hr35.symm);have hr35:=hr35.symm;have :=Cv_ x 16;have hz_42:EqT x 16 r1:=(hr35).symm;have e43:=e41.trans (C3_ hr36.symm);have hr36:=hr36.symm;have :=Bv_ ((r1).2) 1;have hz_44:EqN ((r1).2) 1 r2:=(hr36).symm;refine gx A5_ 7 ?_;refine ef (ecallm (Ih_ _ _) rfl rfl rfl rfl rfl ?_);generalize hr46:Y_ ((r2).2) 16=r3;intro w45 w45p;have e47:=e43.trans (C3_ hr46.symm);have :=Cv_ ((r2).2) 16;have hz_49:EqT ((r2).2) 16 r3:=(hr46.symm).symm
   (try simp only[hr46] at *)
   refine gm A5_ 4 [] λ_=>?_;refine aN [4,6,7,8,9,10,11] 12 mixd<|gX A5_ [0,1,2,3,4,5,6] 5 ?_;refine vE 7 rfl (bsl 6 L_.pc [(⟨0,0,(⟨(r1).1,(r2).1,r3.1⟩:W_),(⟨[],0,0,[]⟩:Q_),(⟨[],[],false,[],[],false⟩:P_),[],0,0,0,0,0,(⟨0,[],[],[],[],0,0⟩:Mail),[]⟩:L_)] A5_ rfl rfl rfl rfl rfl (λ_=>rfl) rfl (by decide) (by decide) rfl λu51=>?_);refine vE 8 rfl (app A5_ [(⟨0,0,(⟨(r1).1,(r2).1,r3.1⟩:W_),(⟨[],0,0,[]⟩:Q_),(⟨[],[],false,[],[],false⟩:P_),[],0,0,0,0,0,(⟨0,[],[],[],[],0,0⟩:Mail),[]⟩:L_)] rfl rfl rfl rfl rfl rfl rfl rfl rfl (src_o rfl rfl) (by first|omega|(simp;omega)) rfl λu52=>?_);refine gX A5_ [9,10] 1 ?_;refine vtp 11 rfl (by kernel_rfl) (by kernel_rfl) (Jb_ A5_ rfl rfl rfl rfl rfl rfl rfl rfl rfl ?_);refine vD ?_;have :=Hg_ (n-1);refine gx A5_ 7 ?_;refine next ⟨f1,(IntKind.wrap .u64 (n-1)),r3.2,(Hk_++[(⟨0,0,(⟨(r1).1,(r2).1,r3.1⟩:W_),(⟨[],0,0,[]⟩:Q_),(⟨[],[],false,[],[],false⟩:P_),[],0,0,0,0,0,(⟨0,[],[],[],[],0,0⟩:Mail),[]⟩:L_)]),(u52)⟩ rfl rfl ⟨rfl,trivial⟩ ⟨rfl,rfl,rfl,trivial⟩ ?_ ?_
   . (try simp only[]);omega
   exact⟨(by (try simp only[]);rw[Ck_ (by omega) (by omega)];omega),e47,⟨⟨(by (try simp only[]);rw[Ck_ (by omega) (by omega)];omega),(by (try simp only[]);rw[Ck_ (by omega) (by omega)];omega),by (try simp only[List.length_append,List.length_cons,List.length_nil]);rw[Ck_ (by omega) (by omega)];omega⟩,dds_shop hi2 hz_42 hz_44 hz_49,trivial⟩⟩
 refine gx A5_ 11 ?_;refine ef (ecallm (Fc_ _ _) rfl rfl rfl rfl rfl ?_);generalize hr55:Z_ x 1=r4;intro w54 w54p;have e56:=e53.trans (C3_ hr55.symm);have :=Bv_ x 1;have hz_58:EqN x 1 r4:=(hr55.symm).symm
 (try simp only[hr55] at *)
 refine gx A5_ 4 ?_;refine loop (ι:=Nat×Int×In×(List L_)×Value) [0] [0,1] (λ⟨f2,n1,x1,deeds1,u_deeds1⟩=>[(4, .int .u64 n1)]) (λ⟨f2,n1,x1,deeds1,u_deeds1⟩=>[(2, .box b5 211 (In.pc x1)),(3, .box (B7 0) 125 [.own 2 b5 0, .osl 4]),(4, .arr u_deeds1 29 66 L_.pc deeds1)]) (λ⟨f2,n1,x1,deeds1,u_deeds1⟩=>(n1).toNat<f2/\z=Db_ text p place f2 n1 x1 deeds1/\(0<=n1/\n1<=255/\(deeds1.length:Int)+n1<=510)/\DdsG x1 deeds1/\True) (λ⟨f2,n1,x1,deeds1,u_deeds1⟩=>f2) ⟨((r4.1).toNat+1),r4.1,r4.2,Hk_,(u_deeds)⟩ ⟨rfl,trivial⟩ ⟨rfl,rfl,rfl,trivial⟩ ?_ ?_
 . exact⟨Nat.lt_succ_self _,e56,⟨⟨by omega,by omega,by omega⟩,O4_ hi2 hz_58,trivial⟩⟩
 rintro⟨f2,n1,x1,deeds1,u_deeds1⟩ ⟨hp59_1,hp59_2,hp59_3⟩;obtain⟨hi1,hi2,hi3⟩:=hp59_3;obtain⟨f3,rfl⟩:∃ q,f2=q+1:=⟨f2-1,by omega⟩;have e_f3:=hp59_2.trans (Db_.eq_2 _ _ _ _ _ _ _);refine gy A5_ 10 ?_;refine callgm rfl (λhc=>(Ig_ _)) rfl rfl rfl rfl ⟨(λhc=>hc),trivial⟩ rfl rfl λ_=>?_;refine gy A5_ 4 ?_;refine cE e_f3 (λh60 e65=>?_) (λh60 e115=>?_)
 . have h61:=bl h60;have p62:=dt h61;have h63:=br h60;have p64:=dt h63;refine gx A5_ 5 ?_;refine Ii_ (ι:=Nat) [0,4] [0,1,3,4] (λb66=>[(5, .own 5 b66 0)]) (λb66=>[(2, .box b5 211 [.str ((((Z_ (((Y_ (((Y_ x1 16)).2) 16)).2) 1)).2).s), .int .i64 ((((Z_ (((Y_ (((Y_ x1 16)).2) 16)).2) 1)).2).err)]),(5, .box b66 62 (P_.pc (⟨((Y_ x1 16)).1,((Y_ (((Y_ x1 16)).2) 16)).1,decide ((((Z_ (((Y_ (((Y_ x1 16)).2) 16)).2) 1)).1)=1),[],[],false⟩:P_)))]) (λb66=>PV.wf (.str (((Y_ x1 16)).1))/\PV.wfs (In.pc (((Y_ x1 16)).2))/\PV.wf (.str (((Y_ (((Y_ x1 16)).2) 16)).1))/\PV.wfs (In.pc (((Y_ (((Y_ x1 16)).2) 16)).2))/\PV.wf (.int .u64 (((Z_ (((Y_ (((Y_ x1 16)).2) 16)).2) 1)).1))/\PV.wfs (In.pc (((Z_ (((Y_ (((Y_ x1 16)).2) 16)).2) 1)).2))) ?_ ?_
   . refine aN [2,5,6,7,8,9,10,11,12] 19 mixd<|gX A5_ [0,1,2,3,5,6,7,8,10,11,12,13] 7 ?_;refine veL 4 [17] (by kernel_rfl) ⟨⟨_,rfl,?_⟩,⟨_,rfl,?_⟩,trivial⟩
     . refine ej rfl (ecallm (Ih_ _ _) rfl rfl rfl rfl rfl λw67 w67p=>?_);have :=Cv_ x1 16;refine veL 9 [17] (by kernel_rfl) ⟨⟨_,rfl,?_⟩,⟨_,rfl,?_⟩,trivial⟩
       . refine ej rfl (ecallm (Ih_ _ _) rfl rfl rfl rfl rfl λw68 w68p=>?_);have :=Cv_ (((Y_ x1 16)).2) 16;refine veL 14 [17] (by kernel_rfl) ⟨⟨_,rfl,?_⟩,⟨_,rfl,?_⟩,trivial⟩
         . refine ej rfl (ecallm (Fc_ _ _) rfl rfl rfl rfl rfl λw69 w69p=>?_);have :=Bv_ (((Y_ (((Y_ x1 16)).2) 16)).2) 1;refine gX A5_ [15,16] 2 ?_;refine vE 17 rfl (aL A5_ 5 λb70=>?_);refine vE 18 rfl (sA A5_ ?_);refine vD<|nX (b70) ?_ ⟨rfl,trivial⟩ ⟨rfl,rfl,trivial⟩;exact⟨w67,w67p,w68,w68p,w69,w69p⟩
         refine ej rfl (aL A5_ 5 λb71=>?_);refine vE 14 rfl (ecallm (Fc_ _ _) rfl rfl rfl rfl rfl λw72 w72p=>?_);have :=Bv_ (((Y_ (((Y_ x1 16)).2) 16)).2) 1;refine gX A5_ [15,16] 1 ?_;refine vE 18 rfl (sA A5_ ?_);refine vD<|nX (b71) ?_ ⟨rfl,trivial⟩ ⟨rfl,rfl,trivial⟩;exact⟨w67,w67p,w68,w68p,w72,w72p⟩
       refine ej rfl (aL A5_ 5 λb73=>?_);refine vE 9 rfl (ecallm (Ih_ _ _) rfl rfl rfl rfl rfl λw74 w74p=>?_);have :=Cv_ (((Y_ x1 16)).2) 16;refine vE 14 rfl (ecallm (Fc_ _ _) rfl rfl rfl rfl rfl λw75 w75p=>?_);have :=Bv_ (((Y_ (((Y_ x1 16)).2) 16)).2) 1;refine gX A5_ [15,16] 1 ?_;refine vE 18 rfl (sA A5_ ?_);refine vD<|nX (b73) ?_ ⟨rfl,trivial⟩ ⟨rfl,rfl,trivial⟩;exact⟨w67,w67p,w74,w74p,w75,w75p⟩
     refine ej rfl (aL A5_ 5 λb76=>?_);refine vE 4 rfl (ecallm (Ih_ _ _) rfl rfl rfl rfl rfl λw77 w77p=>?_);have :=Cv_ x1 16;refine vE 9 rfl (ecallm (Ih_ _ _) rfl rfl rfl rfl rfl λw78 w78p=>?_);have :=Cv_ (((Y_ x1 16)).2) 16;refine vE 14 rfl (ecallm (Fc_ _ _) rfl rfl rfl rfl rfl λw79 w79p=>?_);have :=Bv_ (((Y_ (((Y_ x1 16)).2) 16)).2) 1;refine gX A5_ [15,16] 1 ?_;refine vE 18 rfl (sA A5_ ?_);refine vD<|nX (b76) ?_ ⟨rfl,trivial⟩ ⟨rfl,rfl,trivial⟩;exact⟨w77,w77p,w78,w78p,w79,w79p⟩
   generalize hr80:Y_ x1 16=r5;generalize hr81:Y_ ((r5).2) 16=r6;generalize hr82:Z_ ((r6).2) 1=r7;rintro b66 ⟨w83,w84,w85,w86,w87,w88⟩;have e89:=e65.trans (C3_ hr80.symm);have hr80:=hr80.symm;have :=Cv_ x1 16;have hz_90:EqT x1 16 r5:=(hr80).symm;have e91:=e89.trans (C3_ hr81.symm);have hr81:=hr81.symm;have :=Cv_ ((r5).2) 16;have hz_92:EqT ((r5).2) 16 r6:=(hr81).symm;have e93:=e91.trans (C3_ hr82.symm);have hr82:=hr82.symm;have :=Bv_ ((r6).2) 1;have hz_94:EqN ((r6).2) 1 r7:=(hr82).symm;refine gx A5_ 7 ?_;refine ef (ecallm (Ih_ _ _) rfl rfl rfl rfl rfl ?_);generalize hr96:Y_ ((r7).2) 64=r8;intro w95 w95p;have e97:=e93.trans (C3_ hr96.symm);have :=Cv_ ((r7).2) 64;have hz_99:EqT ((r7).2) 64 r8:=(hr96.symm).symm
   (try simp only[hr96] at *)
   refine gm A5_ 10 [] λ_=>?_;refine ef (ecallm (X3_ _) rfl rfl rfl rfl rfl ?_);generalize hr102:Bw_ r8.2=r9;intro w101 w101p;have e103:=e97.trans (C3_ hr102.symm);have :=Nr_ r8.2;have hz_105:EqH r8.2 r9:=(hr102.symm).symm
   (try simp only[hr102] at *)
   refine gm A5_ 10 [] λ_=>?_;refine ef (ecallm (Fc_ _ _) rfl rfl rfl rfl rfl ?_);generalize hr108:Z_ r9.2 1=r10;intro w107 w107p;have e109:=e103.trans (C3_ hr108.symm);have :=Bv_ r9.2 1;have hz_111:EqN r9.2 1 r10:=(hr108.symm).symm
   (try simp only[hr108] at *)
   refine gm A5_ 5 [] λ_=>?_;refine aN [4,6,7,8,9,10,11] 12 mixd<|gX A5_ [0,1,2,3,4,5,6] 5 ?_;refine vE 7 rfl (bsl 6 L_.pc [(⟨4,0,(⟨[],0,[]⟩:W_),(⟨[],0,0,[]⟩:Q_),(⟨(r5).1,(r6).1,decide (((r7).1)=1),r8.1,r9.1,decide (r10.1=1)⟩:P_),[],0,0,0,0,0,(⟨0,[],[],[],[],0,0⟩:Mail),[]⟩:L_)] A5_ rfl rfl rfl rfl rfl (λ_=>rfl) rfl (by decide) (by decide) rfl λu113=>?_);refine vE 8 rfl (app A5_ [(⟨4,0,(⟨[],0,[]⟩:W_),(⟨[],0,0,[]⟩:Q_),(⟨(r5).1,(r6).1,decide (((r7).1)=1),r8.1,r9.1,decide (r10.1=1)⟩:P_),[],0,0,0,0,0,(⟨0,[],[],[],[],0,0⟩:Mail),[]⟩:L_)] rfl rfl rfl rfl rfl rfl rfl rfl rfl (src_o rfl rfl) (by first|omega|(simp;omega)) rfl λu114=>?_);refine gX A5_ [9,10] 1 ?_;refine vtp 11 rfl (by kernel_rfl) (by kernel_rfl) (Jb_ A5_ rfl rfl rfl rfl rfl rfl rfl rfl rfl ?_);refine vD ?_;have :=Hg_ (n1-1);refine gx A5_ 7 ?_;refine next ⟨f3,(IntKind.wrap .u64 (n1-1)),r10.2,(deeds1++[(⟨4,0,(⟨[],0,[]⟩:W_),(⟨[],0,0,[]⟩:Q_),(⟨(r5).1,(r6).1,decide (((r7).1)=1),r8.1,r9.1,decide (r10.1=1)⟩:P_),[],0,0,0,0,0,(⟨0,[],[],[],[],0,0⟩:Mail),[]⟩:L_)]),(u114)⟩ rfl rfl ⟨rfl,trivial⟩ ⟨rfl,rfl,rfl,trivial⟩ ?_ ?_
   . (try simp only[]);omega
   exact⟨(by (try simp only[]);rw[Ck_ (by omega) (by omega)];omega),e109,⟨⟨(by (try simp only[]);rw[Ck_ (by omega) (by omega)];omega),(by (try simp only[]);rw[Ck_ (by omega) (by omega)];omega),by (try simp only[List.length_append,List.length_cons,List.length_nil]);rw[Ck_ (by omega) (by omega)];omega⟩,dds_bind hi2 hz_90 hz_92 hz_94 hz_99 hz_105 hz_111,trivial⟩⟩
 refine gx A5_ 4 ?_;refine inln rfl rfl rfl trivial ?_;refine gx A5_ 3 ?_;refine Ii_ (ι:=Nat) [0,2,4,6,7,8] [0,1,3,4] (λb116=>[(9, .own 5 b116 0),(10, .int .i64 ((Hj_ ((Fp_ (((Z_ x1 4)).2) (IntKind.wrap .i64 (((Z_ x1 4)).1))).1) ((gt p.places ((place).toNat)).bytes)).2))]) (λb116=>[(2, .box b5 211 [.str (((Fp_ (((Z_ x1 4)).2) (IntKind.wrap .i64 (((Z_ x1 4)).1))).2).s), .int .i64 (((Fp_ (((Z_ x1 4)).2) (IntKind.wrap .i64 (((Z_ x1 4)).1))).2).err)]),(5, .box b116 43 (F_.pc ((Hj_ ((Fp_ (((Z_ x1 4)).2) (IntKind.wrap .i64 (((Z_ x1 4)).1))).1) ((gt p.places ((place).toNat)).bytes)).1)))]) (λb116=>PV.wf (.int .u64 (((Z_ x1 4)).1))/\PV.wfs (In.pc (((Z_ x1 4)).2))/\PV.wf (.str ((Fp_ (((Z_ x1 4)).2) (IntKind.wrap .i64 (((Z_ x1 4)).1))).1))/\PV.wfs (In.pc ((Fp_ (((Z_ x1 4)).2) (IntKind.wrap .i64 (((Z_ x1 4)).1))).2))/\PV.wf (.tup [.agg (F_.pc ((Hj_ ((Fp_ (((Z_ x1 4)).2) (IntKind.wrap .i64 (((Z_ x1 4)).1))).1) ((gt p.places ((place).toNat)).bytes)).1)), .int .i64 ((Hj_ ((Fp_ (((Z_ x1 4)).2) (IntKind.wrap .i64 (((Z_ x1 4)).1))).1) ((gt p.places ((place).toNat)).bytes)).2)])) ?_ ?_
 . refine aN [2,5,6,7,8,9,10,11,12] 24 mixd<|gX A5_ [0,1,2,3,4,5,6,7,11,12,13] 13 ?_;have hc117:=getG (xs:=p.places) (k:=(place).toNat) (by omega);refine vq 14 (qidx A5_ (place).toNat rfl rfl (by omega) hc117 rfl rfl rfl rfl) rfl (by kernel_rfl) rfl λw118=>gX A5_ [15,16] 10 ?_;refine veL 8 [21] (by kernel_rfl) ⟨⟨_,rfl,?_⟩,⟨_,rfl,?_⟩,trivial⟩
   . refine ej rfl (ecallm (Fc_ _ _) rfl rfl rfl rfl rfl λw119 w119p=>?_);have :=Bv_ x1 4;refine gX A5_ [9] 8 ?_;refine veL 10 [21] (by kernel_rfl) ⟨⟨_,rfl,?_⟩,⟨_,rfl,?_⟩,trivial⟩
     . refine ej rfl (ecallm (U3_ _ _) rfl rfl rfl rfl rfl λw120 w120p=>?_);refine veL 17 [21] (by kernel_rfl) ⟨⟨_,rfl,?_⟩,⟨_,rfl,?_⟩,trivial⟩
       . refine ej rfl (eC (Ne_ _ _ (hb:=by exact Tw_ hp hk)) rfl λw121=>?_);refine gX A5_ [18,19,20] 3 ?_;refine vE 21 rfl (aL A5_ 5 λb122=>?_);refine vE 22 rfl (sA A5_ ?_);refine gX A5_ [23] 0 ?_;refine vD<|nX (b122) ?_ ⟨rfl,rfl,trivial⟩ ⟨rfl,rfl,trivial⟩;exact⟨w119,w119p,w120,w120p,w121⟩
       refine ej rfl (aL A5_ 5 λb123=>?_);refine vE 17 rfl (eC (Ne_ _ _ (hb:=by exact Tw_ hp hk)) rfl λw124=>?_);refine gX A5_ [18,19,20] 2 ?_;refine vE 22 rfl (sA A5_ ?_);refine gX A5_ [23] 0 ?_;refine vD<|nX (b123) ?_ ⟨rfl,rfl,trivial⟩ ⟨rfl,rfl,trivial⟩;exact⟨w119,w119p,w120,w120p,w124⟩
     refine ej rfl (aL A5_ 5 λb125=>?_);refine vE 10 rfl (ecallm (U3_ _ _) rfl rfl rfl rfl rfl λw126 w126p=>?_);refine vE 17 rfl (eC (Ne_ _ _ (hb:=by exact Tw_ hp hk)) rfl λw127=>?_);refine gX A5_ [18,19,20] 2 ?_;refine vE 22 rfl (sA A5_ ?_);refine gX A5_ [23] 0 ?_;refine vD<|nX (b125) ?_ ⟨rfl,rfl,trivial⟩ ⟨rfl,rfl,trivial⟩;exact⟨w119,w119p,w126,w126p,w127⟩
   refine ej rfl (aL A5_ 5 λb128=>?_);refine vE 8 rfl (ecallm (Fc_ _ _) rfl rfl rfl rfl rfl λw129 w129p=>?_);have :=Bv_ x1 4;refine gX A5_ [9] 7 ?_;refine vE 10 rfl (ecallm (U3_ _ _) rfl rfl rfl rfl rfl λw130 w130p=>?_);refine vE 17 rfl (eC (Ne_ _ _ (hb:=by exact Tw_ hp hk)) rfl λw131=>?_);refine gX A5_ [18,19,20] 2 ?_;refine vE 22 rfl (sA A5_ ?_);refine gX A5_ [23] 0 ?_;refine vD<|nX (b128) ?_ ⟨rfl,rfl,trivial⟩ ⟨rfl,rfl,trivial⟩;exact⟨w129,w129p,w130,w130p,w131⟩
 generalize hr132:Z_ x1 4=r11;generalize hr133:Fp_ ((r11).2) (IntKind.wrap .i64 ((r11).1))=r12;generalize hr134:Hj_ (r12.1) ((gt p.places ((place).toNat)).bytes)=r13;rintro b116 ⟨w135,w136,w137,w138,w139⟩;have e140:=e115.trans (C3_ hr132.symm);have hr132:=hr132.symm;have :=Bv_ x1 4;have hz_141:EqN x1 4 r11:=(hr132).symm;have e142:=e140.trans (C3_ hr133.symm);have hr133:=hr133.symm;have hz_143:EqR ((r11).2) (IntKind.wrap .i64 ((r11).1)) r12:=(hr133).symm;have e144:=e142.trans (C3_ hr134.symm);have hr134:=hr134.symm;have hkf:=kof_ok r12.1 ((gt p.places ((place).toNat)).bytes) (Tw_ hp hk)
 (try first|rw[<- hr134] at hkf|rw[hr134] at hkf)
 refine gx A5_ 2 ?_;refine Ii_ (ι:=Nat) [0,2,4,6,7,8,9,10] [0,1,3,4,5] (λb145=>[(11, .own 6 b145 0)]) (λb145=>[(2, .box b5 211 [.str (((Dy_ (r12.2)).2).s), .int .i64 (((Dy_ (r12.2)).2).err)]),(6, .box b145 52 (U_.pc (⟨(⟨[],[]⟩:Ap_),(r13.1),((Dy_ (r12.2)).1),(⟨0,0,0,0,0,0,0,0,0,0,0,0,0,0,0,0⟩:A16_u64),(⟨(⟨0,0⟩:Av_),(⟨0,0⟩:Av_),(⟨0,0⟩:Av_),(⟨0,0⟩:Av_),(⟨0,0⟩:Av_),(⟨0,0⟩:Av_),(⟨0,0⟩:Av_),(⟨0,0⟩:Av_)⟩:A8_SpentR)⟩:U_)))]) (λb145=>PV.wf (.agg (B7_.pc ((Dy_ (r12.2)).1)))/\PV.wfs (In.pc ((Dy_ (r12.2)).2))) ?_ ?_
 . refine aN [2,6,7,8,9,10,11,12,13] 9 mixd<|gX A5_ [0,1,2,3,4] 4 ?_;refine veL 5 [7] (by kernel_rfl) ⟨⟨_,rfl,?_⟩,⟨_,rfl,?_⟩,trivial⟩
   . refine ej rfl (ecallm (Qa_ _) rfl rfl rfl rfl rfl λw146 w146p=>?_);refine gX A5_ [6] 2 ?_;refine vE 7 rfl (aL A5_ 6 λb147=>?_);refine vE 8 rfl (sA A5_ ?_);refine vD<|nX (b147) ?_ ⟨rfl,trivial⟩ ⟨rfl,rfl,trivial⟩;exact⟨w146,w146p⟩
   refine ej rfl (aL A5_ 6 λb148=>?_);refine vE 5 rfl (ecallm (Qa_ _) rfl rfl rfl rfl rfl λw149 w149p=>?_);refine gX A5_ [6] 1 ?_;refine vE 8 rfl (sA A5_ ?_);refine vD<|nX (b148) ?_ ⟨rfl,trivial⟩ ⟨rfl,rfl,trivial⟩;exact⟨w149,w149p⟩
 generalize hr150:Dy_ (r12.2)=r14;rintro b145 ⟨w151,w152⟩;have e153:=e144.trans (C3_ hr150.symm);have hr150:=hr150.symm;have hz_154:EqO (r12.2) r14:=(hr150).symm;have hnf:=nread_ok (r12.2)
 (try first|rw[<- hr150] at hnf|rw[hr150] at hnf)
 refine gx A5_ 8 ?_;refine loop (ι:=Nat×Nat×In×U_) [0,2,4,6,7,8,9,10,11] [0,1,3,4,5] (λ⟨f4,v,x2,x3⟩=>[(50, .int .i64 (v:Int))]) (λ⟨f4,v,x2,x3⟩=>[(2, .box b5 211 (In.pc x2)),(6, .box b145 52 (U_.pc x3))]) (λ⟨f4,v,x2,x3⟩=>16-v<f4/\z=E5_ text p place deeds1 r13 f4 v x2 x3/\v<=16/\DdsG x2 deeds1/\PkOk x3) (λ⟨f4,v,x2,x3⟩=>f4) ⟨(16-0+1),0,(r14.2),(⟨(⟨[],[]⟩:Ap_),(r13.1),(r14.1),(⟨0,0,0,0,0,0,0,0,0,0,0,0,0,0,0,0⟩:A16_u64),(⟨(⟨0,0⟩:Av_),(⟨0,0⟩:Av_),(⟨0,0⟩:Av_),(⟨0,0⟩:Av_),(⟨0,0⟩:Av_),(⟨0,0⟩:Av_),(⟨0,0⟩:Av_),(⟨0,0⟩:Av_)⟩:A8_SpentR)⟩:U_)⟩ ⟨rfl,trivial⟩ ⟨rfl,rfl,trivial⟩ ?_ ?_
 . exact⟨Nat.lt_succ_self _,e153,⟨by simp,dds_notes (dds_raw (O4_ hi2 hz_141) hz_143) hz_154,⟨hkf.1,hkf.2,hnf.1,hnf.2⟩⟩⟩
 rintro⟨f4,v,x2,x3⟩ ⟨hp155_1,hp155_2,hp155_3⟩;obtain⟨hi1,hi2,hi3⟩:=hp155_3;obtain⟨f5,rfl⟩:∃ q,f4=q+1:=⟨f4-1,by omega⟩;have e_f5:=hp155_2.trans (E5_.eq_2 _ _ _ _ _ _ _ _ _);refine gx A5_ 6 ?_;refine cD e_f5 (λp157 e158=>?_) (λp165 e166=>?_)
 . refine gx A5_ 16 ?_;refine ef (ecallm (Fc_ _ _) rfl rfl rfl rfl rfl ?_);generalize hr160:Z_ x2 8=r15;intro w159 w159p;have e161:=e158.trans (C3_ hr160.symm);have :=Bv_ x2 8;have hz_163:EqN x2 8 r15:=(hr160.symm).symm
   (try simp only[hr160] at *)
   refine gx A5_ 1 ?_;refine q1 (qaia v rfl rfl underlying47 sz36 rfl (by omega)) rfl λw164=>ef (ostoreS1 (len:=16) (λq=>U_.pc (⟨x3.book,x3.D_,x3.notes,(A16.set x3.seen r15.1 q),x3.spent⟩:U_)) v 39 1 0 A5_ rfl rfl rfl rfl rfl rfl rfl (by omega) (bw16 rfl rfl rfl rfl rfl rfl rfl rfl rfl rfl rfl rfl rfl rfl rfl rfl) rfl (bw16 rfl rfl rfl rfl rfl rfl rfl rfl rfl rfl rfl rfl rfl rfl rfl rfl) rfl ?_);refine gy A5_ 7 ?_;refine next ⟨f5,(v+1),r15.2,(⟨x3.book,x3.D_,x3.notes,(A16.set x3.seen r15.1 v),x3.spent⟩:U_)⟩ rfl rfl ⟨rfl,trivial⟩ ⟨rfl,rfl,trivial⟩ ?_ ?_
   . (try simp only[]);omega
   exact⟨by (try simp only[]);omega,e161,⟨by (try simp only[]);omega,O4_ hi2 hz_163,hi3⟩⟩
 refine gx A5_ 12 ?_;refine loop (ι:=Nat×Int×Nat×In×U_) [0,2,4,6,7,8,9,11] [0,1,3,4,5] (λ⟨f6,e_1,v1,x4,x5⟩=>[(10, .int .i64 e_1),(62, .int .i64 (v1:Int))]) (λ⟨f6,e_1,v1,x4,x5⟩=>[(2, .box b5 211 (In.pc x4)),(6, .box b145 52 (U_.pc x5))]) (λ⟨f6,e_1,v1,x4,x5⟩=>8-v1<f6/\z=D6_ text p place deeds1 r13 f6 e_1 v1 x4 x5/\v1<=8/\DdsG x4 deeds1/\PkOk x5) (λ⟨f6,e_1,v1,x4,x5⟩=>f6) ⟨(8-0+1),r13.2,0,x2,x3⟩ ⟨rfl,rfl,trivial⟩ ⟨rfl,rfl,trivial⟩ ?_ ?_
 . exact⟨Nat.lt_succ_self _,e166,⟨by simp,hi2,hi3⟩⟩
 rintro⟨f6,e_1,v1,x4,x5⟩ ⟨hp167_1,hp167_2,hp167_3⟩;obtain⟨hi1,hi2,hi3⟩:=hp167_3;obtain⟨f7,rfl⟩:∃ q,f6=q+1:=⟨f6-1,by omega⟩;have e_f7:=hp167_2.trans (D6_.eq_2 _ _ _ _ _ _ _ _ _ _);refine gx A5_ 6 ?_;refine cD e_f7 (λp169 e170=>?_) (λp190 e191=>?_)
 . refine gx A5_ 11 ?_;refine aN [2,7,8,9,10,11,12] 16 mixd<|gX A5_ [0,1,2,3,4,6,7,8,9,13] 6 ?_;refine vE 5 rfl (ecallm (Fc_ _ _) rfl rfl rfl rfl rfl ?_);generalize hr172:Z_ x4 8=r16;intro w171 w171p;have e173:=e170.trans (C3_ hr172.symm);have :=Bv_ x4 8;have hz_175:EqN x4 8 r16:=(hr172.symm).symm
   (try simp only[hr172] at *)
   refine vE 10 rfl (ecallm (Fc_ _ _) rfl rfl rfl rfl rfl ?_);generalize hr177:Z_ r16.2 1=r17;intro w176 w176p;have e178:=e173.trans (C3_ hr177.symm);have :=Bv_ r16.2 1;have hz_180:EqN r16.2 1 r17:=(hr177.symm).symm
   (try simp only[hr177] at *)
   refine vE 11 rfl (eqy (qconv A5_ rfl rfl rfl rfl (Rg_ (by omega))) rfl λw181=>?_);refine gX A5_ [12] 2 ?_;refine vq 14 (qaia v1 rfl rfl underlying50 sz49 rfl (by omega)) rfl (by kernel_rfl) rfl λw182=>vtp 15 rfl (by kernel_rfl) (by kernel_rfl) (Sa_ (sz:=2) (len:=8) (λq=>U_.pc (⟨x5.book,x5.D_,x5.notes,x5.seen,(A8.set x5.spent (⟨r16.1,r17.1⟩:Av_) q)⟩:U_)) v1 55 2 0 A5_ rfl rfl rfl rfl rfl rfl rfl rfl rfl (by omega) (bw8 rfl rfl rfl rfl rfl rfl rfl rfl) rfl (bw8 rfl rfl rfl rfl rfl rfl rfl rfl) rfl ?_);refine vD<|gx A5_ 5 ?_;refine q1 (qaia v1 rfl rfl underlying50 sz49 rfl (by omega)) rfl λw183=>gx A5_ 1 ?_;refine ef (oloadS1 (len:=8) (λq=> .int .i64 ((A8.get (A8.set x5.spent (⟨r16.1,r17.1⟩:Av_) v1) q).count)) v1 55 2 1 A5_ rfl rfl rfl rfl rfl rfl (by omega) (bw8 rfl rfl rfl rfl rfl rfl rfl rfl) rfl λw184=>?_);refine gx A5_ 3 ?_;refine cD e178 (λp186 e187=>?_) (λp188 e189=>?_)
   . refine gy A5_ 9 ?_;refine next ⟨f7,4,(v1+1),r17.2,(⟨x5.book,x5.D_,x5.notes,x5.seen,(A8.set x5.spent (⟨r16.1,r17.1⟩:Av_) v1)⟩:U_)⟩ rfl rfl ⟨rfl,rfl,trivial⟩ ⟨rfl,rfl,trivial⟩ ?_ ?_
     . (try simp only[]);omega
     exact⟨by (try simp only[]);omega,e187,⟨by (try simp only[]);omega,O4_ (O4_ hi2 hz_175) hz_180,hi3⟩⟩
   refine gy A5_ 7 ?_;refine next ⟨f7,e_1,(v1+1),r17.2,(⟨x5.book,x5.D_,x5.notes,x5.seen,(A8.set x5.spent (⟨r16.1,r17.1⟩:Av_) v1)⟩:U_)⟩ rfl rfl ⟨rfl,rfl,trivial⟩ ⟨rfl,rfl,trivial⟩ ?_ ?_
   . (try simp only[]);omega
   exact⟨by (try simp only[]);omega,e189,⟨by (try simp only[]);omega,O4_ (O4_ hi2 hz_175) hz_180,hi3⟩⟩
 refine gx A5_ 12 ?_;refine ef (ecallm (in_End _) rfl rfl rfl rfl rfl λw192 w192p=>?_);refine gy A5_ 7 ?_;refine cE e191 (λh193 e194=>?_) (λh193 e202=>?_)
 . refine gm A5_ 9 [] λ_=>?_;subst e194;exact qr2
 have h196:=orl h193;have h197:=Eu_ h196;have p198:=dt h197;have hie:=inEnd_e (dt h197);have h199:=orr h193;have h200:=Eu_ h199;have p201:=dt h200;refine gx A5_ 3 ?_;refine givec 4 rfl<|bx_junk (i:=3) 0 rfl ?_;refine Ii_ (ι:=Nat) [0,6,7,11] [0,1,2,5,6] (λb203=>[(14, .own 4 b203 0),(15, .bool ((As_ (⟨(),deeds1⟩:RdR) (Al_ p place) (X_ (r13.1))).2.1))]) (λb203=>[(3, .box (B7 0) 125 [.junk, .sl L_.pc (((As_ (⟨(),deeds1⟩:RdR) (Al_ p place) (X_ (r13.1))).2.2).Hk_)]),(4, .box b203 35 [.sl W_.pc (((As_ (⟨(),deeds1⟩:RdR) (Al_ p place) (X_ (r13.1))).1).Ba_), .sl P_.pc (((As_ (⟨(),deeds1⟩:RdR) (Al_ p place) (X_ (r13.1))).1).binds)])]) (λb203=>PV.wf (.agg (E_.pc (Al_ p place)))/\PV.wf (.sl Q_.pc (X_ (r13.1)))/\PV.wf (.tup [.agg (Ap_.pc ((As_ (⟨(),deeds1⟩:RdR) (Al_ p place) (X_ (r13.1))).1)), .bool ((As_ (⟨(),deeds1⟩:RdR) (Al_ p place) (X_ (r13.1))).2.1)])/\PV.wfs (RdR.pc ((As_ (⟨(),deeds1⟩:RdR) (Al_ p place) (X_ (r13.1))).2.2))) ?_ ?_
 . refine aN [3,4,7,8,9,10,11,12,13] 13 mixd<|gX A5_ [0,1,2,4] 9 ?_;refine veL 3 [10] (by kernel_rfl) ⟨⟨_,rfl,?_⟩,⟨_,rfl,?_⟩,trivial⟩
   . refine ej rfl (eC (Kk_ p _) rfl λw204=>?_);have hB204:=Mq_ (p:=p) (k:=place) (by first|assumption|exact O2_ (by decide +kernel)) (by first|omega|(simp;done)|decide +kernel);refine veL 5 [10] (by kernel_rfl) ⟨⟨_,rfl,?_⟩,⟨_,rfl,?_⟩,trivial⟩
     . refine ej rfl (eC (Fw_ (r13.1) (hs:=by exact Nat.le_trans hkf.1.1.1 (by decide))) rfl λw206=>?_);refine veL 6 [10] (by kernel_rfl) ⟨⟨_,rfl,?_⟩,⟨_,rfl,?_⟩,trivial⟩
       . refine ej rfl (ecallm (Hi_ (⟨(),deeds1⟩:RdR) (Al_ p place) _ (hs:=by first|assumption|exact Mq_ hp hk) (hd:=by exact hi2 hie)) rfl rfl rfl rfl rfl λw207 w207p=>?_);refine gX A5_ [7,8,9] 3 ?_;refine vE 10 rfl (aL A5_ 4 λb208=>?_);refine vE 11 rfl (sA A5_ ?_);refine gX A5_ [12] 0 ?_;refine vD<|nX (b208) ?_ ⟨rfl,rfl,trivial⟩ ⟨rfl,rfl,trivial⟩;exact⟨w204,w206,w207,w207p⟩
       refine ej rfl (aL A5_ 4 λb209=>?_);refine vE 6 rfl (ecallm (Hi_ (⟨(),deeds1⟩:RdR) (Al_ p place) _ (hs:=by first|assumption|exact Mq_ hp hk) (hd:=by exact hi2 hie)) rfl rfl rfl rfl rfl λw210 w210p=>?_);refine gX A5_ [7,8,9] 2 ?_;refine vE 11 rfl (sA A5_ ?_);refine gX A5_ [12] 0 ?_;refine vD<|nX (b209) ?_ ⟨rfl,rfl,trivial⟩ ⟨rfl,rfl,trivial⟩;exact⟨w204,w206,w210,w210p⟩
     refine ej rfl (aL A5_ 4 λb211=>?_);refine vE 5 rfl (eC (Fw_ (r13.1) (hs:=by exact Nat.le_trans hkf.1.1.1 (by decide))) rfl λw212=>?_);refine vE 6 rfl (ecallm (Hi_ (⟨(),deeds1⟩:RdR) (Al_ p place) _ (hs:=by first|assumption|exact Mq_ hp hk) (hd:=by exact hi2 hie)) rfl rfl rfl rfl rfl λw213 w213p=>?_);refine gX A5_ [7,8,9] 2 ?_;refine vE 11 rfl (sA A5_ ?_);refine gX A5_ [12] 0 ?_;refine vD<|nX (b211) ?_ ⟨rfl,rfl,trivial⟩ ⟨rfl,rfl,trivial⟩;exact⟨w204,w212,w213,w213p⟩
   refine ej rfl (aL A5_ 4 λb214=>?_);refine vE 3 rfl (eC (Kk_ p _) rfl λw215=>?_);have hB215:=Mq_ (p:=p) (k:=place) (by first|assumption|exact O2_ (by decide +kernel)) (by first|omega|(simp;done)|decide +kernel);refine vE 5 rfl (eC (Fw_ (r13.1) (hs:=by exact Nat.le_trans hkf.1.1.1 (by decide))) rfl λw217=>?_);refine vE 6 rfl (ecallm (Hi_ (⟨(),deeds1⟩:RdR) (Al_ p place) _ (hs:=by first|assumption|exact Mq_ hp hk) (hd:=by exact hi2 hie)) rfl rfl rfl rfl rfl λw218 w218p=>?_);refine gX A5_ [7,8,9] 2 ?_;refine vE 11 rfl (sA A5_ ?_);refine gX A5_ [12] 0 ?_;refine vD<|nX (b214) ?_ ⟨rfl,rfl,trivial⟩ ⟨rfl,rfl,trivial⟩;exact⟨w215,w217,w218,w218p⟩
 generalize hr219:Al_ p place=r18;generalize hr220:X_ (r13.1)=r19;generalize hr221:As_ (⟨(),deeds1⟩:RdR) r18 r19=r20;rintro b203 ⟨w222,w223,w224,w225⟩;have e226:=e202.trans (C3_ hr219.symm);have hr219:=hr219.symm;have hA226:=Mq_ (p:=p) (k:=place) (by first|assumption|exact O2_ (by decide +kernel)) (by first|omega|(simp;done)|decide +kernel)
 (try rw[<- hr219] at hA226)
 have hnS:=Mq_ hp hk
 (try first|rw[<- hr219] at hnS|rw[hr219] at hnS)
 have hnB:=newB p place
 (try first|rw[<- hr219] at hnB|rw[hr219] at hnB)
 have e228:=e226.trans (C3_ hr220.symm);have hr220:=hr220.symm;have e229:=e228.trans (C3_ hr221.symm);have hr221:=hr221.symm;have hbf:=book_ok (⟨(),deeds1⟩:RdR) r18 r19 hnS hnB (hi2 hie)
 (try first|rw[<- hr221] at hbf|rw[hr221] at hbf)
 refine gm A5_ 15 [] λ_=>?_;refine callg rfl (λhc=>(O1_ (⟨(r20.1),x5.D_,x5.notes,x5.seen,x5.spent⟩:U_) (hx:=by exact imOk_of hbf hi3))) rfl ⟨(λhc=>hc),trivial⟩ rfl rfl λ_=>gy A5_ 5 ?_;refine cE e229 (λh231 e232=>?_) (λh231 e239=>?_)
 . refine gm A5_ 9 [] λ_=>?_;subst e232;exact qr2
 have h234:=orl h231;have h235:=Eu_ h234;have h236:=orr h231;have h237:=Eu_ h236;have p238:=dt h237;refine gm A5_ 10 [] λ_=>?_;subst e239;exact qr2
theorem Mt_ (s:Bs) (prefix_:Bs):Fn prog gb 82 [.str s, .str prefix_] (.bool (G9_ s prefix_)):=by
 refine kG func82 ntmps82 λw N H hG=>?_;have e0:=G9_.eq_1 s prefix_;refine kC 16 ?_;refine q1g [11,13] rfl (λhc=>sshi G_ prefix_.length rfl rfl rfl rfl (by first|omega|(simp only[gOf,bl2] at *;omega)) (by first|omega|(simp only[gOf,bl2] at *;omega))) ⟨(λhc=>hc),(λhc=>hc),trivial⟩ rfl rfl rfl λ_=>?_;refine kC 7 ?_;exact rt1 rfl rfl (Am_ (λr:Bool=> .bool r) e0 (ple rfl))
theorem Oy_ (s:Bs) (prefix_:Bs):Fn prog gb 25 [.str s, .str prefix_] (.bool (Hn_ s prefix_)):=by
 refine kG func25 ntmps25 λw N H hG=>?_;have e0:=Hn_.eq_1 s prefix_;refine kA 9 ?_;refine call (Mt_ _ _) rfl rfl λw1=>kA 4 ?_;exact rt1 rfl rfl (Am_ (λr:Bool=> .bool r) e0 (ple rfl))
theorem l33_ReportImage_ok (p:C_) (place:Int) (l:List L_):Fn prog gb 4 [.agg (C_.pc p), .int .u8 place, .sl L_.pc l] (.bool (Ij_ p place l)):=by
 refine kG func4 ntmps4 λw N H hG=>?_;have e0:=Ij_.eq_1 p place l;generalize Ij_ p place l=z at e0 ⊢;refine kB 9 [0] λB2=>?_;refine call Yw_ rfl rfl λw3=>kA 3 ?_;refine cE e0 (λh4 e6=>?_) (λh4 e8=>?_)
 . have h5:=E7_ h4;refine kA 7 ?_;subst e6;exact qr1
 have h7:=Eu_ h4;refine kA 6 ?_;refine call (l05_May_ok _) rfl rfl λw9=>kA 3 ?_;refine callg rfl (λhc=>(Yu_ _)) rfl ⟨(λhc=>hc),trivial⟩ rfl rfl λ_=>kC 4 ?_;refine cE e8 (λh10 e11=>?_) (λh10 e17=>?_)
 . refine kA 7 ?_;subst e11;exact qr1
 have h12:=orl h10;have h13:=Eu_ h12;obtain⟨hpo,hpl0,hpl1,hsl0,hsl1,hgl,hpn⟩:=l05_may2 h13;have h14:=orr h10;have h15:=Eu_ h14;have hb15:=l23_ddl h15
 (try obtain⟨hb15a,hb15b⟩:=hb15)
 refine kA 6 ?_;refine cV e17 R0_ (l23_At_ok _ _) rfl λr hr18 e20 w19=>?_;have hA20:=at_r p place (by omega)
 (try rw[<- hr18] at hA20)
 have hat:0<=r/\r<p.places.length:=by rw[hr18];exact at_r p place (by omega)
 have hpnr:=hpn _ (Ib_ (xs:=p.places) (k:=(r).toNat) (by omega));refine kA 7 ?_;refine cV e20 R21_ (Kk_ _ _ (hp:=by first|assumption|exact O2_ (by decide +kernel)) (hk:=by first|omega|decide +kernel)) rfl λr1 hr22 e24 w23=>?_;have hA24:=Mq_ (p:=p) (k:=r) (by first|assumption|exact O2_ (by decide +kernel)) (by first|omega|(simp;done)|decide +kernel)
 (try rw[<- hr22] at hA24)
 have hrt:Rt p r r1:=by first|rw[hr22];exact rt_new hpo hat (Xa_ w.1)|rw[<- hr22];exact rt_new hpo hat (Xa_ w.1)
 refine kB 13 [1] λB27=>?_;refine loop (ι:=Nat×E_) [3,6,7,8,32,33] [0] (λ⟨k,x⟩=>[(34, .int .i64 (k:Int))]) (λ⟨k,x⟩=>[(1, .box (B27 0) 54 (E_.pc x))]) (λ⟨k,x⟩=>k<=l.length/\z=Dk_ p r (l.drop k) x/\Rt p r x/\StOk x) (λ⟨k,x⟩=>l.length-k) ⟨0,r1⟩ ⟨rfl,trivial⟩ ⟨rfl,trivial⟩ ?_ ?_
 . exact⟨Nat.zero_le _,e24,⟨hrt,hrt.ok⟩⟩
 rintro⟨k,x⟩ ⟨hp28_1,hp28_2,hp28_3⟩;obtain⟨hi1,hi2⟩:=hp28_3;have hrt_x:=hi1;have hst_x:=hrt_x.ok;refine kA 6 ?_;refine cnd rfl (λh29=>?_) (λh29=>?_)
 . have p30:=dt h29;have e31:=C5_ (f:=λzz=>Dk_ p r zz x) hp28_2 (Gs_ (by omega)) (Dk_.eq_2 _ _ _ _ _);have hc32:=getG (xs:=l) (k:=k) (by omega);have hy_hc32:=dd_mem (by assumption) hc32;have hf_hc32:=deed_f (by first|exact w.1|exact w.2.1|exact w.2.2.1|exact w.2.2.2.1|exact w.2.2.2) hc32;have hx_hc32:=hf_hc32.2.2.1;refine kA 6 ?_;refine kI k hc32 λw33=>?_;refine kB 8 [2] λB35=>?_;refine cV e31 R22_ (Gh_ _ _ (hs:=by exact hst_x)) rfl λr2 hr36 e38 w37=>?_;have hA38:=V5_ (s:=x) (d:=(gt l k)) (by assumption) (by first|assumption|exact dd1 (by decide +kernel)|exact⟨by first|(simp;done)|omega,by first|(simp;done)|omega,by first|(simp;done)|((try dsimp only);omega),by first|(simp;done)|((try dsimp only);omega)⟩) (by first|assumption|omega|(dsimp only;omega)|decide +kernel)
   (try rw[<- hr36] at hA38)
   have hrdo_r2:=rt_do (p:=p) (k:=r) (s:=x) (d:=(gt l k)) hrt_x hy_hc32 hf_hc32
   (try first|rw[<- hr36] at hrdo_r2|rw[hr36] at hrdo_r2)
   refine kD 12 [] λ_=>?_;refine nY ⟨(k+1),r2.1⟩ ⟨rfl,trivial⟩ ⟨rfl,trivial⟩ ?_ ?_
   . (try simp only[]);omega
   exact⟨by (try simp only[]);omega,e38,⟨hrdo_r2,hrdo_r2.ok⟩⟩
 have p41:=df h29;have e42:=C5_ (f:=λzz=>Dk_ p r zz x) hp28_2 (Gy_ (by omega)) (Dk_.eq_1 _ _ _);refine kA 8 ?_;refine cV e42 R39_ (F6_ _) rfl λr3 hr43 e45 w44=>?_;have him_r3:ImOk r3:=rt_im (s:=x) hrt_x (by first|exact hr43|exact Eq.symm hr43);have hrp_r3:RpOk p r r3:=rt_rp (s:=x) hrt_x (by first|exact hr43|exact Eq.symm hr43) hpo hat hpn;have hbl1:=him_r3.1.1;have hbl2:=him_r3.1.2.1;have hbl3:=him_r3.2.2.1.1.1;have hbl4:=him_r3.2.2.2.2.1;refine kB 5 [2] λB47=>?_;refine Ii_ (ι:=Nat) [3,6,7,11] [0,1,2] (λb48=>[(12, .own 3 b48 0),(13, .int .i64 ((Fy_ (Cx_ r3) p r).2))]) (λb48=>[(3, .box b48 52 (U_.pc ((Fy_ (Cx_ r3) p r).1)))]) (λb48=>PV.wf (.str (Cx_ r3))/\PV.wf (.tup [.agg (U_.pc ((Fy_ (Cx_ r3) p r).1)), .int .i64 ((Fy_ (Cx_ r3) p r).2)])) ?_ ?_
 . refine aN [3,4,5,6,7,8,9,10] 11 mixd<|kE [0] 10 ?_;refine vC 1 rfl (O1_ r3 (hx:=by exact him_r3)) rfl λw49=>kE [2,3] 7 ?_;refine veL 4 [8] (by kernel_rfl) ⟨⟨_,rfl,?_⟩,⟨_,rfl,?_⟩,trivial⟩
   . refine ej rfl (eC (Pu_ _ p _ (hp:=by exact hpo) (hk:=by exact hat)) rfl λw50=>?_);refine kE [5,6,7] 3 ?_;refine vE 8 rfl (aL G_ 3 λb51=>?_);refine vE 9 rfl (sA G_ ?_);refine kE [10] 0 ?_;refine vD<|nZ (b51) ?_ ⟨rfl,rfl,trivial⟩ ⟨rfl,trivial⟩;exact⟨w49,w50⟩
   refine ej rfl (aL G_ 3 λb52=>?_);refine vE 4 rfl (eC (Pu_ _ p _ (hp:=by exact hpo) (hk:=by exact hat)) rfl λw53=>?_);refine kE [5,6,7] 2 ?_;refine vE 9 rfl (sA G_ ?_);refine kE [10] 0 ?_;refine vD<|nZ (b52) ?_ ⟨rfl,rfl,trivial⟩ ⟨rfl,trivial⟩;exact⟨w49,w53⟩
 generalize hr54:Cx_ r3=r4;generalize hr55:Fy_ r4 p r=r5;rintro b48 ⟨w56,w57⟩;have e58:=e45.trans (C3_ hr54.symm);have hr54:=hr54.symm;have e59:=e58.trans (C3_ hr55.symm);have hr55:=hr55.symm;have hbk:r5=(r3,0):=rt_back hrt_x (by first|exact hr43|exact Eq.symm hr43) (by first|exact hr54|exact Eq.symm hr54) (by first|exact hr55|exact Eq.symm hr55);have hrp_y:RpOk p r r5.1:=by rw[hbk];exact hrp_r3
 refine kA 6 ?_;refine cV e59 R26_ (Lh_ _ _ _ (hr:=by exact hrp_r3)) rfl λr6 hr60 e62 w61=>?_;have hlp:=lines_pos p r r3
 (try first|rw[<- hr60] at hlp|rw[hr60] at hlp)
 refine kA 4 ?_;refine aN [4,5,6,7,8,9] 21 mixd<|kE [0,1,5,6,10,11,15,16] 13 ?_;refine vE 2 rfl (eC (Ja_ r3.book) rfl ?_);generalize hr64:Dd_ r3.book=r7;intro w63;have e65:=e62.trans (C3_ hr64.symm);have hr64:=hr64.symm;have hA65:=Nd_ r3.book
 (try rw[<- hr64] at hA65)
 have hA66:=congrArg List.length (Nd_ r3.book)
 (try rw[<- hr64] at hA66)
 refine kF [3,4] 10 ?_;refine vE 7 rfl (eC (I9_ r3.book (hb:=by exact bk_want him_r3.1 him_r3.2.1)) rfl ?_);generalize hr69:Cm_ r3.book=r8;intro w68;have e70:=e65.trans (C3_ hr69.symm);have hr69:=hr69.symm;have hA70:=Jj_ r3.book
 (try rw[<- hr69] at hA70)
 have hA71:=congrArg List.length (Jj_ r3.book)
 (try rw[<- hr69] at hA71)
 have hl_bi_len:=bi_len r3.book
 (try first|rw[<- hr69] at hl_bi_len|rw[hr69] at hl_bi_len)
 refine kF [8,9] 7 ?_;refine vE 12 rfl (eC (Fw_ r3.D_ (hs:=by omega)) rfl ?_);generalize hr74:X_ r3.D_=r9;intro w73;have e75:=e70.trans (C3_ hr74.symm);have hr74:=hr74.symm;have hl_qu_len:=qu_len r3.D_
 (try first|rw[<- hr74] at hl_qu_len|rw[hr74] at hl_qu_len)
 refine kF [13,14] 4 ?_;refine vE 17 rfl (eC (Lx_ r3.notes (hk:=by omega)) rfl ?_);generalize hr77:Dq_ r3.notes=r10;intro w76;have e78:=e75.trans (C3_ hr77.symm);have hr77:=hr77.symm;have hl_al_len:=al_len r3.notes
 (try first|rw[<- hr77] at hl_al_len|rw[hr77] at hl_al_len)
 refine kF [18,19,20] 0 ?_;refine vD<|kA 2 ?_;refine aN [4,5,6,7,8,9] 31 mixd<|kE [0,1,2,3,4,5,6] 24 ?_;refine vE 7 rfl (ecallg rfl (λhc=>(Lh_ p _ (r5.1) (hr:=by exact hrp_y))) rfl ⟨(λhc=>hc),(λhc=>hc),(λhc=>hc),trivial⟩ rfl rfl λ_=>?_);refine vcallg 8 rfl (by kernel_rfl) rfl (λhc=>(eq_Str _ _)) rfl rfl ⟨(λhc=>hc),(λhc=>hc),trivial⟩ rfl λ_=>kF [9,10,11,12,13,14,15,16,17] 13 ?_;refine vqg 18 [97] rfl (by kernel_rfl) rfl rfl (λhc=>qidx G_ 0 rfl rfl rfl (getG (by first|omega|(simp only[gOf,bl2] at *;omega))) rfl rfl rfl rfl) ⟨(λhc=>hc),trivial⟩ rfl λ_=>?_;refine kF [19,20,21,22] 8 ?_;refine vqg 23 [101,102] rfl (by kernel_rfl) rfl rfl (λhc=>qidx G_ (r).toNat rfl rfl (by first|omega|(simp only[gOf,bl2] at *;omega)) (getG (by first|omega|(simp only[gOf,bl2] at *;omega))) rfl rfl rfl rfl) ⟨(λhc=>hc),(λhc=>hc),trivial⟩ rfl λ_=>?_;refine gov G_ [24,25,26,27] 3 rfl (by kernel_rfl) rfl rfl ⟨(λhc=>hc),(λhc=>hc),(λhc=>hc),(λhc=>(by first|omega|(simp<;>omega))),(λhc=>hc),(λhc=>(by first|omega|(simp<;>omega))),trivial⟩ ?_;refine vcallg 28 rfl (by kernel_rfl) rfl (λhc=>(Oy_ _ _)) rfl rfl ⟨(λhc=>hc),(λhc=>hc),trivial⟩ rfl λ_=>kF [29,30] 0 ?_;refine vD<|kA 2 ?_;subst e78;exact qr1
end Go.SW.V
namespace Go.SW
def errD:DataW Unit->Bs
 | .iface _ (.ptr (.agg [.lit (.string b)]))=>b
 |_=>[]
def layE (pt low:Nat):Nat->List (Nat×DataW Unit)->Array Obj->Array Obj
 |_,[],h=>h
 | k,x::l,h=>layE pt low (k+1) l (h.modify x.1 λ
   | .cells _ t frozen=> .cells #[.iface pt (.pointer (some ⟨low+k,0,none⟩))] t frozen
   |o=>o)
noncomputable def laidWE (P:Program) (os:Os) (pt st:Nat) (l e:List (Nat×DataW Unit)):World:=
 let low:=(World.holding P os ⟨#[],#[],[]⟩).heap.size
 let w0:=World.holding P os ⟨(e.map λx=>Obj.cells #[.string ⟨(errD x.2).toArray⟩] st).toArray,#[],[]⟩
 {w0 with heap:=layE pt low 0 e (List.foldl (λh x=>h.modify x.1 (layD x.2)) w0.heap l)}
end Go.SW
namespace Go.SW.V
open Go.SW
theorem awake33:P0_=true:=by decide +kernel
section
variable {p:C_} {a:Int} {x:U_} {s:Z9_}
end
theorem pre_has (a w:Bs):Hn_ (a++w) a=true:=by
 unfold Hn_ G9_
 rw[List.take_left,decide_eq_true rfl,Bool.and_true]
 simp
 omega
theorem rimage0 {p:C_} {k:Int}:∀ (l:List L_) (s:E_),(∀ d∈l,DdOk d/\DdF d)->Rt p k s->Dk_ p k l s=true
 |[],s,_,h=>by
   unfold Dk_ lt
   dsimp only
   rw[rt_read h]
   dsimp only
   obtain⟨w,z,h1,h2⟩:=lines_pf p k (Af_ s)
   rw[h1]
   have hg:gt (([112,108,97,99,101,32]++(gt p.places k.toNat).name++[32]++w)::z) 0=[112,108,97,99,101,32]++(gt p.places k.toNat).name++[32]++w:=rfl
   rw[hg,pre_has,decide_eq_true rfl,decide_eq_true rfl,Bool.and_true,Bool.true_and,Bool.true_and,decide_eq_true_eq]
   rw[Jj_]
   unfold Dd_
   simp only[List.length_cons]
   omega
 |d::l,s,hd,h=>by
   unfold Dk_ lt
   obtain⟨d1,d2⟩:=hd d (by simp)
   exact rimage0 l _ (λq hq=>hd q (by simp[hq])) (rt_do h d1 d2)
theorem law33_image (p:C_) (place:Int) (l:List L_) (hpw:(PV.agg (C_.pc p)).wf) (hw:(PV.sl L_.pc l).wf):Ij_ p place l=true:=by
 unfold Ij_
 rw[awake33,Bool.not_true,cond_false]
 cases hm:L7_ p with
 |false=>rfl
 |true=>
   cases hl:Lb_ l with
   |false=>rfl
   |true=>
     simp only[Bool.not_true,Bool.false_or,cond_false]
     unfold lt
     obtain⟨h1,h2,_,_,_,_,h7⟩:=l05_may2 hm
     have hat:=at_r p place (by omega)
     have hdd:=l23_ddl hl
     refine rimage0 l _ (λd hd=>?_) (rt_new h1 hat (Xa_ hpw))
     obtain⟨k,hk⟩:=List.getElem?_of_mem hd
     exact⟨hdd.1.1 d hd,deed_f hw hk⟩
end Go.SW.V
