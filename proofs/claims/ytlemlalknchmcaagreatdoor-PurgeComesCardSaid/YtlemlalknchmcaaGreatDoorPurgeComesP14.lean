/-
  A part of the proof of PurgeComes: Events purged are those of them that are steps or may come: so no more, and purged again they are the same.
-/
import Derived.Test.YtlemlalknchmcaaGreatDoorPurgeComesP3
import Derived.Test.YtlemlalknchmcaaGreatDoorPurgeComesP2
import Derived.Test.YtlemlalknchmcaaGreatDoorProg
import Derived.KernelRfl
import Derived.Test.YtlemlalknchmcaaGreatDoorPurgeComesP6
import Derived.Test.YtlemlalknchmcaaGreatDoorPurgeComesP13
set_option linter.unusedVariables false
set_option linter.unusedSimpArgs false
set_option maxRecDepth 100000
set_option maxHeartbeats 4000000
open Go.Proofs.Tryz
namespace Go.SW.V
open Go.SW
theorem Jp_ (p:A_) (place:Int):∀ (l out:List C_),M_ p place l out=out++l.filter (λx=>decide (x.kind=3)||Cg_ (T_ p) p.places.length x.place place)
 |[],out=>by simp[M_]
 |x::t,out=>by
   simp only[M_,List.filter_cons]
   cases h:(decide (x.kind=3)||Cg_ (T_ p) p.places.length x.place place) with
   |true=>simp only[cond_true,if_true];rw[Jp_ p place t];simp
   |false=>simp only[cond_false,if_neg Bool.false_ne_true];exact Jp_ p place t out
theorem Kw_ (p:A_) (place:Int) (l:List C_):Al_ p place l=l.filter (λx=>decide (x.kind=3)||Cg_ (T_ p) p.places.length x.place place):=by
 rw[Al_,Jp_];simp
theorem Rd_ (p:A_) (place:Int) (l:List C_):(Al_ p place l).length<=l.length:=by
 rw[Kw_];exact List.length_filter_le _ _
end Go.SW.V
namespace Go.SW.V
open Go.SW Go.Proofs
theorem Kn_ (l:List C_):Fn prog gb 8 [.sl C_.pc l] (.bool (Ci_ l)):=by
 refine kG func8 ntmps8 λw N H hG=>?_;have l_l:l.length<=140737488355328:=w.1.1;have e0:=Ci_.eq_1 l;generalize Ci_ l=z at e0 ⊢;refine kA 14 ?_;refine loop (ι:=Nat) [0,5,6] [] (λk=>[(7, .int .i64 (k:Int))]) (λk=>[]) (λk=>k<=l.length/\z=Af_ l (l.drop k)) (λk=>l.length-k) 0 ⟨Y,Z⟩ Z ?_ ?_;exact⟨Nat.zero_le _,e0⟩;rintro k ⟨hp1_1,hp1_2⟩;refine kN 6 (λp0=>?_) λp1=>?_;have e1:=Bq_ (f:=λzz=>Af_ l zz) hp1_2 (E5_ xN) (Af_.eq_2 _ _ _);have hc0:=getG (xs:=l) (k:=k) xN;refine jA 6 Y<|kI k hc0 λw0=>?_;refine kB 13 [0] λB0=>?_;refine cD e1 (λp2 e2=>?_) (λp3 e3=>?_);refine kA 11 ?_;subst e2;exact qr1;refine kC 7 ?_;refine next (k+1) Y Y ⟨Y,Z⟩ Z ?_ ?_;exact zA;exact⟨by (try simp only[]);omega,e3⟩;have e1:=Bq_ (f:=λzz=>Af_ l zz) hp1_2 (E6_ xN) (Af_.eq_1 _);refine kA 14 ?_;subst e1;exact qr1
theorem Hq_ (p:A_) (from_:Int) (to_:Int):Fn prog gb 31 [.agg (A_.pc p), .int .i64 from_, .int .i64 to_] (.bool (T_ p from_ to_)):=by
 refine kG func31 ntmps31 λw N H hG=>?_;have p_places_l:p.places.length<=140737488355328:=w.1.2.2.1.1;have p_slots_l:p.slots.length<=140737488355328:=w.1.2.2.2.1.1;have p_grants_l:p.grants.length<=140737488355328:=w.1.2.2.2.2.1.1;have from__r:-9223372036854775808<=from_/\from_<=9223372036854775807:=w.2.1;have to__r:-9223372036854775808<=to_/\to_<=9223372036854775807:=w.2.2.1;have e0:=T_.eq_1 p from_ to_;refine kB 15 [0] λB0=>?_;refine callg Y (λhc=>(D3_ _ _ _)) Y ⟨(λhc=>hc),(λhc=>hc),(λhc=>hc),trivial⟩ Y Y λ_=>kC 5 ?_;refine callg Y (λhc=>(D4_ _ _ _)) Y ⟨(λhc=>hc),(λhc=>hc),(λhc=>hc),trivial⟩ Y Y λ_=>kC 6 ?_;exact zE
theorem E0_ (p:A_) (from_:Int) (to_:Int) (hl:p.places.length<=16:=by assumption):Fn prog gb 17 [.agg (A_.pc p), .int .i64 from_, .int .i64 to_] (.bool (Cg_ (T_ p) p.places.length from_ to_)):=by
 refine kG func17 ntmps17 λw N H hG=>?_;have p_places_l:p.places.length<=140737488355328:=w.1.2.2.1.1;have p_slots_l:p.slots.length<=140737488355328:=w.1.2.2.2.1.1;have p_grants_l:p.grants.length<=140737488355328:=w.1.2.2.2.2.1.1;have from__r:-9223372036854775808<=from_/\from_<=9223372036854775807:=w.2.1;have to__r:-9223372036854775808<=to_/\to_<=9223372036854775807:=w.2.2.1;refine kD 36 [0] λB0=>?_;refine cnd Y (λh0=>?_) (λh0=>?_)
 . refine kR 8 ?_
   first|(refine CI.out ?_;assumption)|(refine CI.fin hco (.inr ?_) ?_<;>first|omega|assumption)|(refine CI.fin (hci.push hii ?_ ?_ ?_) (.inl ?_) ?_<;>first|assumption|omega)
 have h1:=orl h0;have h2:=orl h1;have h3:=orl h2;have p0:=df h3;have h4:=orr h2;have p1:=df h4;have h5:=orr h1;have p2:=df h5;have h6:=orr h0;have p3:=df h6;refine jA 5 Y<|ef (bsl 1 i64c [from_] Bd_ Y Y Y Y Y (λ_=>rfl) Y xQ xQ Y λu0=>?_);refine kA 13 ?_;refine loop (ι:=Nat×(List Int)×Nat×Value) [2,3,6,7] [0] (λ⟨f,reached,i,u_reached⟩=>[(8, .osl 1),(9, .int .i64 (i:Int))]) (λ⟨f,reached,i,u_reached⟩=>[(1, .arr u_reached 1 3 i64c reached)]) (λ⟨f,reached,i,u_reached⟩=>(p.places.length+1-i)<f/\True/\CI (T_ p) p.places.length from_ reached i 0/\i<=reached.length) (λ⟨f,reached,i,u_reached⟩=>f) ⟨((p.places.length+1-0)+1),[from_],0,(u0)⟩ ⟨Y,Y,Z⟩ ⟨Y,Z⟩ ?_ ?_;exact⟨Nat.lt_succ_self _,trivial,⟨CI.start (by simp_all) (by simp_all),by simp⟩⟩;rintro⟨f,reached,i,u_reached⟩ ⟨hp15_1,hp15_2,hp15_3⟩;obtain⟨hco,hil⟩:=hp15_3;have hlo:=hco.len;obtain⟨f1,rfl⟩:∃ q,f=q+1:=⟨f-1,by omega⟩;refine kN 9 (λp4=>?_) λp5=>?_;refine kA 11 ?_;refine loop (ι:=Nat×(List Int)×Nat×Value) [2,3,6,7,9,38] [0] (λ⟨f2,reached1,v,u_reached1⟩=>[(8, .osl 1),(39, .int .i64 (v:Int))]) (λ⟨f2,reached1,v,u_reached1⟩=>[(1, .arr u_reached1 1 3 i64c reached1)]) (λ⟨f2,reached1,v,u_reached1⟩=>p.places.length-v<f2/\True/\CI (T_ p) p.places.length from_ reached1 i v/\i<reached1.length) (λ⟨f2,reached1,v,u_reached1⟩=>f2) ⟨(p.places.length-0+1),reached,0,(u_reached)⟩ ⟨Y,Y,Z⟩ ⟨Y,Z⟩ ?_ ?_;exact⟨Nat.lt_succ_self _,hp15_2,⟨hco,by omega⟩⟩;rintro⟨f2,reached1,v,u_reached1⟩ ⟨hp18_1,hp18_2,hp18_3⟩;obtain⟨hci,hii⟩:=hp18_3;have hln:=hci.len;obtain⟨f3,rfl⟩:∃ q,f2=q+1:=⟨f2-1,by omega⟩;refine kN 6 (λp6=>?_) λp7=>?_;refine jA 17 Y<|ef (calll 1 Y (Ch_ _ _) Y Y Y λw0=>?_);refine kM 3 (λh7=>?_) (λh7=>?_);refine kA 2 ?_;refine cndT Y h7 ?_;refine kC 9 ?_;refine next ⟨f3,reached1,(v+1),(u_reached1)⟩ Y Y ⟨Y,Y,Z⟩ ⟨Y,Z⟩ ?_ ?_;exact zA;exact⟨by (try simp only[]);omega,hp18_2,wQ⟩;refine aN [2,3,4,5,6,7] 9 mixd<|kE [0,1,2] 6 ?_;refine vq 3 (eidx i Bd_ Y Y Y Y Y Y Y Y xN) Y xO Y λw1=>kE [5] 4 ?_;have hc0:=getG (xs:=reached1) (k:=i) xN;refine vE 4 Y (elod1 (i:=1) (.int .i64 (gt reached1 i)) i 0 Bd_ Y Y Y Y hc0 Y Y Y Y λw2=>?_);refine vC 6 Y (Hq_ _ _ _) Y λw3=>kE [7,8] 0 ?_;refine vD<|kM 1 (λh8=>?_) (λh8=>?_);have h9:=S5_ h8;refine kC 9 ?_;refine next ⟨f3,reached1,(v+1),(u_reached1)⟩ Y Y ⟨Y,Y,Z⟩ ⟨Y,Z⟩ ?_ ?_;exact zA;exact⟨by (try simp only[]);omega,hp18_2,wQ⟩;have h9:=Ls_ h8;refine jA 7 Y<|ef (bsl 2 i64c [(v:Int)] Bd_ Y Y Y Y Y (λ_=>rfl) Y xQ xQ Y λu1=>?_);refine ef (app Bd_ [(v:Int)] Y Y Y Y Y Y Y Y Y (src_o Y Y) xZ Y λu2=>?_);refine kN 11 (λp8=>?_) λp9=>?_
 . refine jA 14 Y<|ef (calll 1 Y (Ch_ _ _) Y Y Y λw4=>?_);refine kR 5 ?_
   first|(refine CI.out ?_;assumption)|(refine CI.fin hco (.inr ?_) ?_<;>first|omega|assumption)|(refine CI.fin (hci.push hii ?_ ?_ ?_) (.inl ?_) ?_<;>first|assumption|omega)
 refine kC 7 ?_;refine next ⟨f3,(reached1++[(v:Int)]),(v+1),(u2)⟩ Y Y ⟨Y,Y,Z⟩ ⟨Y,Z⟩ ?_ ?_;exact zA;exact⟨by (try simp only[]);omega,hp18_2,wQ⟩;refine kC 11 ?_;refine next ⟨f1,reached1,(i+1),(u_reached1)⟩ Y Y ⟨Y,Y,Z⟩ ⟨Y,Z⟩ ?_ ?_;exact zA;exact⟨by (try simp only[]);omega,hp18_2,⟨CI.next hci xN,by omega⟩⟩;refine jA 9 Y<|ef (calll 1 Y (Ch_ _ _) Y Y Y λw0=>?_);refine kR 5 ?_
 first|(refine CI.out ?_;assumption)|(refine CI.fin hco (.inr ?_) ?_<;>first|omega|assumption)|(refine CI.fin (hci.push hii ?_ ?_ ?_) (.inl ?_) ?_<;>first|assumption|omega)
theorem Ic_ (p:A_) (place:Int) (l:List C_) (hl:p.places.length<=16:=by assumption) (hl2:l.length<=80:=by first|assumption|omega):Fn prog gb 14 [.agg (A_.pc p), .int .i64 place, .sl C_.pc l] (.sl C_.pc (Al_ p place l)):=by
 refine kG func14 ntmps14 λw N H hG=>?_;have p_places_l:p.places.length<=140737488355328:=w.1.2.2.1.1;have p_slots_l:p.slots.length<=140737488355328:=w.1.2.2.2.1.1;have p_grants_l:p.grants.length<=140737488355328:=w.1.2.2.2.2.1.1;have place_r:-9223372036854775808<=place/\place<=9223372036854775807:=w.2.1;have l_l:l.length<=140737488355328:=w.2.2.1.1;have e0:=Al_.eq_1 p place l;refine kB 20 [0] λB0=>?_;refine sw_own (t:=7) (k:=6) (e:=30) 1 C_.pc Y Y ?_;refine loop (ι:=Nat×(List C_)×Value) [1,3,6,10,11] [0] (λ⟨k,out,u_out⟩=>[(12, .int .i64 (k:Int)),(7, .osl 1)]) (λ⟨k,out,u_out⟩=>[(1, .arr u_out 6 30 C_.pc out)]) (λ⟨k,out,u_out⟩=>k<=l.length/\Al_ p place l=M_ p place (l.drop k) out/\out.length<=k) (λ⟨k,out,u_out⟩=>l.length-k) ⟨0,[],(.slice none 0 0)⟩ ⟨Y,Y,Z⟩ ⟨Y,Z⟩ ?_ ?_;exact zF;rintro⟨k,out,u_out⟩ ⟨hp3_1,hp3_2,hp3_3⟩;have hol:out.length<=k:=hp3_3;refine kN 6 (λp0=>?_) λp1=>?_;have e1:=Bq_ (f:=λzz=>M_ p place zz out) hp3_2 (E5_ xN) (M_.eq_2 _ _ _ _ _);have hc0:=getG (xs:=l) (k:=k) xN;refine jA 6 Y<|kI k hc0 λw0=>?_;refine kD 15 [2] λB1=>?_;refine callg Y (λhc=>(E0_ _ _ _)) Y ⟨(λhc=>hc),(λhc=>hc),(λhc=>hc),trivial⟩ Y Y λ_=>kC 3 ?_;refine cE e1 (λh0 e2=>?_) (λh0 e3=>?_);refine jA 3 Y<|ef (bsl 3 C_.pc [(gt l k)] Bd_ Y Y Y Y Y (λ_=>rfl) Y xQ xQ Y λu0=>?_);refine ef (app Bd_ [(gt l k)] Y Y Y Y Y Y Y Y Y (src_o Y Y) xZ Y λu1=>?_);refine kC 8 ?_;refine next ⟨(k+1),(out++[(gt l k)]),(u1)⟩ Y Y ⟨Y,Y,Z⟩ ⟨Y,Z⟩ ?_ ?_;exact zA;exact zG;have h1:=orl h0;have p2:=df h1;have h2:=orr h0;refine kC 7 ?_;refine next ⟨(k+1),out,(u_out)⟩ Y Y ⟨Y,Y,Z⟩ ⟨Y,Z⟩ ?_ ?_;exact zA;exact zH;have e1:=Bq_ (f:=λzz=>M_ p place zz out) hp3_2 (E6_ xN) (M_.eq_1 _ _ _);exact zX
theorem P2_:Fn prog gb 11 [] (.bool true):=Go.CE.f32a
theorem Jr_ (p:A_) (from_:Int) (to_:Int):Fn prog gb 32 [.agg (A_.pc p), .int .i64 from_, .int .i64 to_] (.bool (Au_ p from_ to_)):=by
 refine kG func32 ntmps32 λw N H hG=>?_;have p_places_l:p.places.length<=140737488355328:=w.1.2.2.1.1;have p_slots_l:p.slots.length<=140737488355328:=w.1.2.2.2.1.1;have p_grants_l:p.grants.length<=140737488355328:=w.1.2.2.2.2.1.1;have from__r:-9223372036854775808<=from_/\from_<=9223372036854775807:=w.2.1;have to__r:-9223372036854775808<=to_/\to_<=9223372036854775807:=w.2.2.1;have e0:=Au_.eq_1 p from_ to_;refine kB 11 [0] λB0=>?_;refine call (Kz_ _ _ _) Y Y λw0=>kA 4 ?_;refine callg Y (λhc=>(Jq_ _ _ _)) Y ⟨(λhc=>hc),(λhc=>hc),(λhc=>hc),trivial⟩ Y Y λ_=>kC 6 ?_;exact zE
theorem sz4:Sz prog 4 1:=λw=>by kernel_rfl
theorem Ga_ (p:A_) (from_:Int) (to_:Int) (hl:p.places.length<=16:=by assumption):Fn prog gb 18 [.agg (A_.pc p), .int .i64 from_, .int .i64 to_] (.bool (Cg_ (Au_ p) p.places.length from_ to_)):=by
 refine kG func18 ntmps18 λw N H hG=>?_;have p_places_l:p.places.length<=140737488355328:=w.1.2.2.1.1;have p_slots_l:p.slots.length<=140737488355328:=w.1.2.2.2.1.1;have p_grants_l:p.grants.length<=140737488355328:=w.1.2.2.2.2.1.1;have from__r:-9223372036854775808<=from_/\from_<=9223372036854775807:=w.2.1;have to__r:-9223372036854775808<=to_/\to_<=9223372036854775807:=w.2.2.1;refine kD 35 [0] λB0=>?_;refine cnd Y (λh0=>?_) (λh0=>?_)
 . refine kR 7 ?_
   first|(refine CI.out ?_;assumption)|exact RO.fin hro xY xY
 have h1:=orl h0;have h2:=orl h1;have h3:=orl h2;have p0:=df h3;have h4:=orr h2;have p1:=df h4;have h5:=orr h1;have p2:=df h5;have h6:=orr h0;have p3:=df h6;refine kB 10 [1] λB1=>?_;refine q1 (qaia (from_).toNat Y Y underlying78 sz4 xN xN) Y λw0=>ef (Ne_ (len:=16) (λq=>A16_bool.pc (A16.set (⟨false,false,false,false,false,false,false,false,false,false,false,false,false,false,false,false⟩:A16_bool) true q)) ((from_).toNat) 0 1 0 Bd_ Y Y Y Y Y Y Y xN (bw16 Y Y Y Y Y Y Y Y Y Y Y Y Y Y Y Y) Y (bw16 Y Y Y Y Y Y Y Y Y Y Y Y Y Y Y Y) Y ?_);refine kA 9 ?_;refine loop (ι:=Nat×Bool×A16_bool) [2,3,6,7,8] [0] (λ⟨f,more,x⟩=>[(9, .bool more)]) (λ⟨f,more,x⟩=>[(1, .box (B1 0) 78 (A16_bool.pc x))]) (λ⟨f,more,x⟩=>(cntB x p.places.length+(bif more then 1 else 0))<f/\True/\RO (Au_ p) p.places.length from_ x more) (λ⟨f,more,x⟩=>f) ⟨((cntB (A16.set (⟨false,false,false,false,false,false,false,false,false,false,false,false,false,false,false,false⟩:A16_bool) true ((from_).toNat)) p.places.length+(bif true then 1 else 0))+1),true,(A16.set (⟨false,false,false,false,false,false,false,false,false,false,false,false,false,false,false,false⟩:A16_bool) true ((from_).toNat))⟩ ⟨Y,Z⟩ ⟨Y,Z⟩ ?_ ?_;exact⟨Nat.lt_succ_self _,trivial,RO.start _ (bw16 Y Y Y Y Y Y Y Y Y Y Y Y Y Y Y Y) (by simp_all) (by simp_all) hl⟩;rintro⟨f,more,x⟩ ⟨hp17_1,hp17_2,hp17_3⟩;have hro:=hp17_3;have hmu:=hp17_1;obtain⟨f1,rfl⟩:∃ q,f=q+1:=⟨f-1,by omega⟩;refine kM 6 (λh7=>?_) (λh7=>?_);refine kA 14 ?_;refine loop (ι:=Nat×Bool×Nat×A16_bool) [2,3,6,7,8] [0] (λ⟨f2,more1,a,x0⟩=>[(9, .bool more1),(10, .int .i64 (a:Int))]) (λ⟨f2,more1,a,x0⟩=>[(1, .box (B1 0) 78 (A16_bool.pc x0))]) (λ⟨f2,more1,a,x0⟩=>p.places.length-a<f2/\True/\RI (Au_ p) p.places.length from_ x x0 more1 a 0) (λ⟨f2,more1,a,x0⟩=>f2) ⟨(p.places.length-0+1),false,0,x⟩ ⟨Y,Y,Z⟩ ⟨Y,Z⟩ ?_ ?_;exact⟨Nat.lt_succ_self _,hp17_2,hro.into⟩;rintro⟨f2,more1,a,x0⟩ ⟨hp19_1,hp19_2,hp19_3⟩;have hri:=hp19_3;obtain⟨f3,rfl⟩:∃ q,f2=q+1:=⟨f2-1,by omega⟩;refine kM 8 (λh8=>?_) (λh8=>?_);have p4:=dt h8;refine kA 10 ?_;refine loop (ι:=Nat×Bool×Nat×A16_bool) [2,3,6,7,8,10] [0] (λ⟨f4,more2,b_1,x1⟩=>[(9, .bool more2),(11, .int .i64 (b_1:Int))]) (λ⟨f4,more2,b_1,x1⟩=>[(1, .box (B1 0) 78 (A16_bool.pc x1))]) (λ⟨f4,more2,b_1,x1⟩=>p.places.length-b_1<f4/\True/\RI (Au_ p) p.places.length from_ x x1 more2 a b_1) (λ⟨f4,more2,b_1,x1⟩=>f4) ⟨(p.places.length-0+1),more1,0,x0⟩ ⟨Y,Y,Z⟩ ⟨Y,Z⟩ ?_ ?_;exact⟨Nat.lt_succ_self _,hp19_2,hri⟩;rintro⟨f4,more2,b_1,x1⟩ ⟨hp22_1,hp22_2,hp22_3⟩;have hri:=hp22_3;obtain⟨f5,rfl⟩:∃ q,f4=q+1:=⟨f4-1,by omega⟩;refine kM 8 (λh9=>?_) (λh9=>?_);have p5:=dt h9;refine jA 7 Y<|q1 (qaia a Y Y underlying78 sz4 Y xN) Y λw1=>ef (Qq_ (len:=16) (λq=> .bool (A16.get x1 q)) a 0 1 0 Bd_ Y Y Y Y Y Y xN (bw16 Y Y Y Y Y Y Y Y Y Y Y Y Y Y Y Y) Y λw2=>?_);refine kA 2 ?_;refine q1g [8,48] Y (λhc=>qaia b_1 Y Y underlying78 sz4 Y wF) ⟨(λhc=>hc),trivial⟩ Y Y Y λ_=>?_;refine q1gL [49] Y (λhc=>lyS1 (len:=16) (λq=> .bool (A16.get x1 q)) b_1 0 1 0 Bd_ Y Y Y Y Y Y wF (λ_=>rfl) (bw16 Y Y Y Y Y Y Y Y Y Y Y Y Y Y Y Y)) ⟨(λhc=>hc),trivial⟩ Y Y λ_=>?_;refine kC 6 ?_;refine callg Y (λhc=>(Jr_ _ _ _)) Y ⟨(λhc=>hc),(λhc=>hc),(λhc=>hc),trivial⟩ Y Y λ_=>kC 3 ?_;refine cnd Y (λh10=>?_) (λh10=>?_);have h11:=bl h10;have h12:=bl h11;have h13:=br h11;have h14:=S5_ h13;have h15:=br h10;refine jA 3 Y<|q1 (qaia b_1 Y Y underlying78 sz4 Y xN) Y λw3=>ef (Ne_ (len:=16) (λq=>A16_bool.pc (A16.set x1 true q)) b_1 0 1 0 Bd_ Y Y Y Y Y Y Y xN (bw16 Y Y Y Y Y Y Y Y Y Y Y Y Y Y Y Y) Y (bw16 Y Y Y Y Y Y Y Y Y Y Y Y Y Y Y Y) Y ?_);refine kC 12 ?_;refine next ⟨f5,true,(b_1+1),(A16.set x1 true b_1)⟩ Y Y ⟨Y,Y,Z⟩ ⟨Y,Z⟩ ?_ ?_;exact zA;exact zI;refine kC 8 ?_;refine next ⟨f5,more2,(b_1+1),x1⟩ Y Y ⟨Y,Y,Z⟩ ⟨Y,Z⟩ ?_ ?_;exact zA;exact zI;have p5:=df h9;refine kC 11 ?_;refine next ⟨f3,more2,(a+1),x1⟩ Y Y ⟨Y,Y,Z⟩ ⟨Y,Z⟩ ?_ ?_;exact zA;exact⟨by (try simp only[]);omega,hp22_2,(hri.row xN)⟩;have p4:=df h8;refine kA 5 ?_;refine next ⟨f1,more1,x0⟩ Y Y ⟨Y,Z⟩ ⟨Y,Z⟩ ?_ ?_;exact zA;exact⟨(hri.mu (by have hm:=(by assumption :more=true);rw[hm] at hmu;exact hmu)),hp19_2,(hri.over xN)⟩;refine jA 8 Y<|q1 (qaia (to_).toNat Y Y underlying78 sz4 xN xN) Y λw1=>ef (Qq_ (len:=16) (λq=> .bool (A16.get x q)) ((to_).toNat) 0 1 0 Bd_ Y Y Y Y Y Y xN (bw16 Y Y Y Y Y Y Y Y Y Y Y Y Y Y Y Y) Y λw2=>?_);refine kR 4 ?_
 first|(refine CI.out ?_;assumption)|exact RO.fin hro xY xY
theorem K0_ (p:A_) (place:Int) (l:List C_) (hl:p.places.length<=16:=by assumption) (hl2:l.length<=80:=by first|assumption|omega):Fn prog gb 15 [.agg (A_.pc p), .int .i64 place, .sl C_.pc l] (.sl C_.pc (Dh_ p place l)):=by
 refine kG func15 ntmps15 λw N H hG=>?_;have p_places_l:p.places.length<=140737488355328:=w.1.2.2.1.1;have p_slots_l:p.slots.length<=140737488355328:=w.1.2.2.2.1.1;have p_grants_l:p.grants.length<=140737488355328:=w.1.2.2.2.2.1.1;have place_r:-9223372036854775808<=place/\place<=9223372036854775807:=w.2.1;have l_l:l.length<=140737488355328:=w.2.2.1.1;have e0:=Dh_.eq_1 p place l;refine kB 20 [0] λB0=>?_;refine sw_own (t:=7) (k:=6) (e:=31) 1 C_.pc Y Y ?_;refine loop (ι:=Nat×(List C_)×Value) [1,3,6,10,11] [0] (λ⟨k,out,u_out⟩=>[(12, .int .i64 (k:Int)),(7, .osl 1)]) (λ⟨k,out,u_out⟩=>[(1, .arr u_out 6 31 C_.pc out)]) (λ⟨k,out,u_out⟩=>k<=l.length/\Dh_ p place l=Ai_ p place (l.drop k) out/\out.length<=k) (λ⟨k,out,u_out⟩=>l.length-k) ⟨0,[],(.slice none 0 0)⟩ ⟨Y,Y,Z⟩ ⟨Y,Z⟩ ?_ ?_;exact zF;rintro⟨k,out,u_out⟩ ⟨hp3_1,hp3_2,hp3_3⟩;have hol:out.length<=k:=hp3_3;refine kN 6 (λp0=>?_) λp1=>?_;have e1:=Bq_ (f:=λzz=>Ai_ p place zz out) hp3_2 (E5_ xN) (Ai_.eq_2 _ _ _ _ _);have hc0:=getG (xs:=l) (k:=k) xN;refine jA 6 Y<|kI k hc0 λw0=>?_;refine kD 15 [2] λB1=>?_;refine callg Y (λhc=>(Ga_ _ _ _)) Y ⟨(λhc=>hc),(λhc=>hc),(λhc=>hc),trivial⟩ Y Y λ_=>kC 3 ?_;refine cE e1 (λh0 e2=>?_) (λh0 e3=>?_);refine jA 3 Y<|ef (bsl 3 C_.pc [(gt l k)] Bd_ Y Y Y Y Y (λ_=>rfl) Y xQ xQ Y λu0=>?_);refine ef (app Bd_ [(gt l k)] Y Y Y Y Y Y Y Y Y (src_o Y Y) xZ Y λu1=>?_);refine kC 8 ?_;refine next ⟨(k+1),(out++[(gt l k)]),(u1)⟩ Y Y ⟨Y,Y,Z⟩ ⟨Y,Z⟩ ?_ ?_;exact zA;exact zG;have h1:=orl h0;have p2:=df h1;have h2:=orr h0;refine kC 7 ?_;refine next ⟨(k+1),out,(u_out)⟩ Y Y ⟨Y,Y,Z⟩ ⟨Y,Z⟩ ?_ ?_;exact zA;exact zH;have e1:=Bq_ (f:=λzz=>Ai_ p place zz out) hp3_2 (E6_ xN) (Ai_.eq_1 _ _ _);exact zX
theorem Jf_ (l:List C_) (hl2:l.length<=80:=by first|assumption|omega):Fn prog gb 16 [.sl C_.pc l] (.sl C_.pc (Bo_ l)):=by
 refine kG func16 ntmps16 λw N H hG=>?_;have l_l:l.length<=140737488355328:=w.1.1;have e0:=Bo_.eq_1 l;refine kA 19 ?_;refine sw_own (t:=3) (k:=6) (e:=31) 0 C_.pc Y Y ?_;refine loop (ι:=Nat×(List C_)×Value) [2,6,7] [] (λ⟨k,out,u_out⟩=>[(8, .int .i64 (k:Int)),(3, .osl 0)]) (λ⟨k,out,u_out⟩=>[(0, .arr u_out 6 31 C_.pc out)]) (λ⟨k,out,u_out⟩=>k<=l.length/\Bo_ l=Aa_ (l.drop k) out/\out.length<=k) (λ⟨k,out,u_out⟩=>l.length-k) ⟨0,[],(.slice none 0 0)⟩ ⟨Y,Y,Z⟩ ⟨Y,Z⟩ ?_ ?_;exact zF;rintro⟨k,out,u_out⟩ ⟨hp1_1,hp1_2,hp1_3⟩;have hol:out.length<=k:=hp1_3;refine kN 6 (λp0=>?_) λp1=>?_;have e1:=Bq_ (f:=λzz=>Aa_ zz out) hp1_2 (E5_ xN) (Aa_.eq_2 _ _ _);have hc0:=getG (xs:=l) (k:=k) xN;refine jA 6 Y<|kI k hc0 λw0=>?_;refine kB 8 [1] λB0=>?_;refine ef (bsl 2 C_.pc [(gt l k)] Bd_ Y Y Y Y Y (λ_=>rfl) Y xQ xQ Y λu0=>?_);refine ef (app Bd_ [(gt l k)] Y Y Y Y Y Y Y Y Y (src_o Y Y) xZ Y λu1=>?_);refine kC 8 ?_;refine next ⟨(k+1),(out++[(gt l k)]),(u1)⟩ Y Y ⟨Y,Y,Z⟩ ⟨Y,Z⟩ ?_ ?_;exact zA;exact⟨by (try simp only[]);omega,e1,wY⟩;have e1:=Bq_ (f:=λzz=>Aa_ zz out) hp1_2 (E6_ xN) (Aa_.eq_1 _);refine kA 11 ?_;refine givec 0 Y<|kA 1 ?_;exact rt1 Y Y (B8_ (λr:(List C_)=> .sl C_.pc r) e1 (ple Y))
abbrev R2_:A_->PV:=λr=> .agg (A_.pc r)
theorem ag28:Ag prog 28 false:=λw=>by kernel_rfl
theorem ag3:Ag prog 3 false:=λw=>by kernel_rfl
theorem ag9:Ag prog 9 false:=λw=>by kernel_rfl
theorem eqg31:prog.eqGuardType prog.depth 31=false:=by kernel_rfl
theorem veq31 (p q:C_):∀ (H:Hp) (vs us:List Value),Sims H (C_.pc p) vs->Sims H (C_.pc q) us->EqV prog 10000 31 (.agg vs.toArray) (.agg us.toArray) (decide (p=q)):=by
 intro H vs us hv hu;obtain⟨_,_,rfl,v0,v_0⟩:=hv.inv_cons;obtain⟨_,_,rfl,v1,v_1⟩:=v_0.inv_cons;obtain⟨_,_,rfl,v2,v_2⟩:=v_1.inv_cons;obtain⟨_,_,rfl,v3,v_3⟩:=v_2.inv_cons;obtain⟨_,_,rfl,v4,v_4⟩:=v_3.inv_cons;obtain⟨_,_,rfl,v5,v_5⟩:=v_4.inv_cons
 cases v_5.inv_nil
 cases v0.inv_int.1;cases v1.inv_int.1;cases v2.inv_int.1;cases v3.inv_str.1;cases v4.inv_int.1;cases v5.inv_int.1
 obtain⟨_,_,rfl,u0,u_0⟩:=hu.inv_cons;obtain⟨_,_,rfl,u1,u_1⟩:=u_0.inv_cons;obtain⟨_,_,rfl,u2,u_2⟩:=u_1.inv_cons;obtain⟨_,_,rfl,u3,u_3⟩:=u_2.inv_cons;obtain⟨_,_,rfl,u4,u_4⟩:=u_3.inv_cons;obtain⟨_,_,rfl,u5,u_5⟩:=u_4.inv_cons
 cases u_5.inv_nil
 cases u0.inv_int.1;cases u1.inv_int.1;cases u2.inv_int.1;cases u3.inv_str.1;cases u4.inv_int.1;cases u5.inv_int.1
 exact EqV.to' (Lh_ underlying31 xO (I7_ xQ ag5 Y Y (D9_ underlying5) (I7_ xQ ag3 Y Y (D9_ underlying3) (I7_ xQ ag28 Y Y (D9_ underlying28) (I7_ xQ ag9 Y Y (Pe_ underlying9) (I7_ xQ ag3 Y Y (D9_ underlying3) (I7_ xQ ag3 Y Y (D9_ underlying3) Lg_))))))) (by obtain⟨a0,a1,a2,a3,a4,a5⟩:=p;obtain⟨b0,b1,b2,b3,b4,b5⟩:=q;rw[Bool.eq_iff_iff];simp)
theorem l32_PurgeComes_ok (p:A_) (from_:Int) (to_:Int) (l:List C_):Fn prog gb 4 [.agg (A_.pc p), .int .i64 from_, .int .i64 to_, .sl C_.pc l] (.bool (Bi_ p from_ to_ l)):=by
 refine kG func4 ntmps4 λw N H hG=>?_;have p_places_l:p.places.length<=140737488355328:=w.1.2.2.1.1;have p_slots_l:p.slots.length<=140737488355328:=w.1.2.2.2.1.1;have p_grants_l:p.grants.length<=140737488355328:=w.1.2.2.2.2.1.1;have from__r:-9223372036854775808<=from_/\from_<=9223372036854775807:=w.2.1;have to__r:-9223372036854775808<=to_/\to_<=9223372036854775807:=w.2.2.1;have l_l:l.length<=140737488355328:=w.2.2.2.1.1;have e0:=Bi_.eq_1 p from_ to_ l;generalize Bi_ p from_ to_ l=z at e0 ⊢;refine kB 9 [0] λB0=>?_;refine call P2_ Y Y λw0=>kA 3 ?_;refine cndF Y Y ?_;refine kL 6 (N2_ _) Y Y Y λw1=>kA 3 ?_;refine callg Y (λhc=>(Kn_ _)) Y ⟨(λhc=>hc),trivial⟩ Y Y λ_=>kC 4 ?_;refine cE e0 (λh0 e1=>?_) (λh0 e2=>?_);exact zY;have h1:=orl h0;have h2:=Ls_ h1;obtain⟨hpo,hpl0,hpl1,hsl0,hsl1,hgl⟩:=l05_may h2;have h3:=orr h0;have h4:=Ls_ h3;have hb10:=light_l h4
 (try obtain⟨hb10a,hb10b⟩:=hb10)
 refine jA 5 Y<|cV e2 R2_ (Km_ _) Y λr hr0 e3 w2=>?_;have hto:r.places.length=p.places.length:=by rw[hr0];exact to_pl p
 refine kB 5 [1] λB1=>?_;refine aN [2,3,4,5,6,7] 11 mixd<|kE [0,1,2,4,5,6] 5 ?_;refine vE 3 Y (eC (Ic_ p _ _) Y ?_);generalize hr1:Al_ p to_ l=r0;intro w3;have e4:=e3.trans (S4_ hr1.symm);have hr1:=hr1.symm;have hA0:=Rd_ p to_ l
 (try rw[<- hr1] at hA0)
 refine vE 7 Y (eC (Jf_ _) Y ?_);generalize hr2:Bo_ l=r1;intro w4;have e5:=e4.trans (S4_ hr2.symm);have hr2:=hr2.symm;have hA1:=Nz_ l
 (try rw[<- hr2] at hA1)
 refine vE 8 Y (eC (K0_ r _ _ (hl:=by omega)) Y ?_);generalize hr3:Dh_ r to_ r1=r2;intro w5;have e6:=e5.trans (S4_ hr3.symm);refine kE [9,10] 0 ?_;refine vD<|kA 3 ?_;refine aN [2,3,4,5,6,7] 16 mixd<|kE [0,1,2] 13 ?_;refine vC 3 Y (E0_ p _ _) Y λw6=>kE [4,5,6] 9 ?_;refine vC 7 Y (Ga_ r _ _ (hl:=by omega)) Y λw7=>kF [8,9,10,11,12,13,14,15] 0 ?_;refine vD<|jA 1 Y<|cE e6 (λh5 e7=>?_) (λh5 e8=>?_);refine kA 7 ?_;subst e7;exact qr1;have h6:=orl h5;have h7:=Ls_ h6;have p0:=beqT h7;have h8:=orr h5;have h9:=Ls_ h8;have p1:=dt h9;refine kA 11 ?_;refine loop (ι:=Nat) [11,51,52] [0,1] (λk=>[(53, .int .i64 (k:Int))]) (λk=>[]) (λk=>k<=r0.length/\z=R_ r2 (r0.drop k) k) (λk=>r0.length-k) 0 ⟨Y,Z⟩ Z ?_ ?_;exact⟨Nat.zero_le _,e8⟩;rintro k ⟨hp40_1,hp40_2⟩;refine kN 6 (λp2=>?_) λp3=>?_;have e9:=Bq_ (f:=λzz=>R_ r2 zz k) hp40_2 (E5_ xN) (R_.eq_2 _ _ _ _);have hc0:=getG (xs:=r0) (k:=k) xN;refine jA 7 Y<|kI k hc0 λw8=>?_;refine kB 7 [2] λB2=>?_;refine aN [3,4,5,6,7,8] 6 mixd<|kE [0,1,2] 3 ?_;have hc1:=getG (xs:=r2) (k:=k) xN;refine vq 3 (qidx Bd_ k Y Y Y hc1 Y Y Y Y) Y xO Y λw9=>kE [4] 1 ?_;refine vq 5 (sane Y Y eqg31 (veq31 (gt r0 k) (gt r2 k))) Y xO Y λw10=>vD ?_;refine jA 1 Y<|cN e9 (λp4 e10=>?_) (λp5 e11=>?_);refine kA 11 ?_;subst e10;exact qr1;refine kC 7 ?_;refine next (k+1) Y Y ⟨Y,Z⟩ Z ?_ ?_;exact zA;exact⟨by (try simp only[]);omega,e11⟩;have e9:=Bq_ (f:=λzz=>R_ r2 zz k) hp40_2 (E6_ xN) (R_.eq_1 _ _);refine kA 11 ?_;subst e9;exact qr1
end Go.SW.V
namespace Go.SW
open Go.ChangeShapes Go.WideShapes Go.ChangeAt Go.RowKit
variable {P:Program}
theorem I1_ {Ht:Type} {enc:TypeId×Value->Ht} {w:World} {base:Nat} {sp:Nat->Bool} {held:Bool} {fuel:Nat} {t e:TypeId} {n:Nat} {cs:List Value} {zs:List Bs} {p:List MemPlace}
   (ht:P.underlying t=some (.array n e)) (he:P.underlying e=some .string) (hce:P.cellsOf e=1) (hct:P.cellsOf t=n)
   (h:DataW.trod enc P w base sp held fuel t cs=some (.agg (zs.map λz=> .lit (.string z)),p)):cs=zs.map str:=by
 cases fuel with
 |zero=>simp[DataW.trod] at h
 |succ fuel=>
   simp only[DataW.trod,ht,hce,hct,Nat.mul_one] at h
   split at h
   . rename_i hl
     obtain⟨xs,hm,hx⟩:=Option.map_eq_some_iff.1 h
     have hxs:xs.map (·.1)=zs.map λz=>(DataW.lit (.string z):DataW Ht):=by
       have :=congrArg Prod.fst hx
       exact xF
     have hxl:xs.length=n:=by simpa using Lib.mapM_length hm
     have hzl:zs.length=n:=by
       have :=congrArg List.length hxs
       simp at this
       omega
     apply List.ext_getElem?
     intro i
     by_cases hi:i<n
     . obtain⟨b,hb,hf⟩:=Lib.mapM_at hm i i (by simp[hi])
       obtain⟨z,hc,rfl,_⟩:=DataW.trod_string he hf
       have h1:cs[i]? = some (.string z):=by
         have :=congrArg (·[0]?) hc
         simpa [List.getElem?_take,List.getElem?_drop] using this
       have h2:(xs.map (·.1))[i]? = some (DataW.lit (.string z.data.toList):DataW Ht):=by simp[hb]
       rw[hxs] at h2
       simp only[List.getElem?_map,Option.map_eq_some_iff,DataW.lit.injEq,Lit.string.injEq] at h2
       obtain⟨z',hz',rfl⟩:=h2
       rw[h1,List.getElem?_map,hz',Nr_]
       rfl
     . rw[List.getElem?_eq_none xN,List.getElem?_eq_none xS]
   . cases h
theorem Sr_ {w:World} {g n:Nat} {name:String} {zs:List Bs} {rest:List (String×DataW Unit)} {t e:TypeId} (hg:P.globalNamed name=some g) (hty:(P.globals[g]?).map (·.type)=some t) (ht:P.underlying t=some (.array n e)) (he:P.underlying e=some .string) (hce:P.cellsOf e=1) (hct:P.cellsOf t=n)
   (h:laidMet P ((name, .agg (zs.map λz=> .lit (.string z)))::rest) w):GStrs (hp w) g zs:=by
 obtain⟨ps,⟨g',t',cs,fuel,p,q,hg',ht',hvar,hd,_,_⟩,_⟩:=h;obtain rfl :=Option.some.inj (hg.symm.trans hg');obtain rfl :=Option.some.inj (hty.symm.trans ht');have hc:=I1_ ht he hce hct hd;obtain rfl :cs=(zs.map str).toArray:=by rw[<- hc]
 unfold World.var? at hvar;rw[hg] at hvar;simp only[Option.bind_some] at hvar
 split at hvar
 . rename_i cs T fr hh
   cases hvar
   exact⟨T,fr,hh⟩
 . cases hvar
end Go.SW
namespace Go.SW
def errD:DataW Unit->Bs
 | .iface _ (.ptr (.agg [.lit (.string b)]))=>b
 |_=>[]
def layE (pt low:Nat):Nat->List (Nat×DataW Unit)->Array Obj->Array Obj
 |_,[],h=>h
 | k,x::l,h=>layE pt low (k+1) l (h.modify x.1 λ
   | .cells _ t frozen=> .cells #[.iface pt (.pointer (some ⟨low+k,0,none⟩))] t frozen
   |o=>o)
noncomputable def laidWE (P:Program) (os:Os) (pt st:Nat) (l e:List (Nat×DataW Unit)):World:=
 let low:=(World.holding P os ⟨#[],#[],[]⟩).heap.size
 let w0:=World.holding P os ⟨(e.map λx=>Obj.cells #[.string ⟨(errD x.2).toArray⟩] st).toArray,#[],[]⟩
 {w0 with heap:=layE pt low 0 e (List.foldl (λh x=>h.modify x.1 (layD x.2)) w0.heap l)}
end Go.SW
namespace Go.SW.V
open Go.SW
theorem Pm_ {α β:Type} [Inhabited α] (p:α->Bool) (z:β) (a:α->Nat->β) (F:List α->Nat->β) (h0:∀ k,F [] k=z) (h1:∀ x t k,F (x::t) k = bif p x then a x k else F t (k+1)):∀ (l:List α) (k:Nat),F l k = bif decide (idxF p k l<0) then z else a (gt l (idxF p k l-k).toNat) (idxF p k l).toNat
 |[],k=>by rw[h0];rfl
 |x::t,k=>by
   rw[h1,idxF]
   cases e:p x with
   |true=>
     have e1:decide ((k:Int)<0)=false:=decide_eq_false xN
     rw[cond_true,if_pos rfl,e1,cond_false]
     have e2:((k:Int)-k).toNat=0:=by omega
     rw[e2,Int.toNat_natCast];rfl
   |false=>
     rw[cond_false,if_neg xQ,Pm_ p z a F h0 h1 t (k+1)]
     have hb:=Mx_ p t (k+1)
     by_cases q:idxF p (k+1) t<0
     . rw[decide_eq_true q];rfl
     . rw[decide_eq_false q,cond_false,cond_false]
       have e3:(idxF p (k+1) t-k).toNat=(idxF p (k+1) t-((k+1:Nat):Int)).toNat+1:=by omega
       rw[e3];rfl
theorem Ui_ {α:Type} [Inhabited α] (p:α->Bool) (F:List α->Nat->Int) (h0:∀ k,F [] k = -1) (h1:∀ x t k,F (x::t) k = bif p x then (k:Int) else F t (k+1)):∀ (l:List α) (k:Nat),F l k=idxF p k l
 |[],k=>by rw[h0];rfl
 |x::t,k=>by
   rw[h1,idxF,Ui_ p F h0 h1 t (k+1)]
   cases p x<;>rfl
theorem Re_ (p:A_) (a b:Int):Dg_ p a b=A1_ p a b:=Ui_ _ (As_ a b) (λ_=>rfl) (λ_ _ _=>rfl) p.grants 0
theorem Je_ {a:An_} (h:0<=a.Fq_/\a.Fq_<=4294967295) {i:Nat} (hi:i<32):B7_ a (i:Int)=(BitVec.ofInt 32 a.Fq_).getLsbD i:=by
 unfold B7_;have h1:min ((i:Int)).toNat (IntKind.bits .u32)=i:=by
   show min ((i:Int)).toNat 32=i
   omega
 rw[h1];obtain⟨n,hn⟩:∃ n:Nat,a.Fq_=n:=⟨a.Fq_.toNat,by omega⟩;rw[hn] at h ⊢;have h2:(BitVec.ofInt 32 (n:Int)).toNat=n:=by
   rw[BitVec.toNat_ofInt]
   omega
 rw[BitVec.getLsbD,h2,Nat.testBit_eq_decide_div_mod_eq];have h3:Int.fdiv (n:Int) (2 ^ i)=((n/2 ^ i:Nat):Int):=by
   rw[Int.fdiv_eq_ediv_of_nonneg _ (by exact Int.le_of_lt (Int.pow_pos xQ))]
   rw[Int.natCast_ediv,Int.natCast_pow]
   rfl
 rw[h3];by_cases q:n/2 ^ i%2=1;rw[decide_eq_true q,decide_eq_true xN];rw[decide_eq_false q,decide_eq_false xN]
theorem Vb_ (a b:An_):∀ (f i:Nat),32-i<f->i<=32->(A9_ a b f i=true↔∀ j,i<=j->j<32->(B7_ a (j:Int)&&!B7_ b (j:Int))=false)
 |0,i,h,_=>by omega
 |f+1,i,h,hi=>by
   unfold A9_
   by_cases q:i<32
   . rw[decide_eq_true (show (i:Int)<32 by omega),cond_true]
     cases e:(B7_ a (i:Int)&&!B7_ b (i:Int)) with
     |true=>
       rw[cond_true]
       constructor
       . intro h;cases h
       . intro h;rw[h i (Nat.le_refl i) q] at e;cases e
     |false=>
       rw[cond_false,Vb_ a b f (i+1) xN xN]
       constructor
       . intro h j h1 h2
         by_cases q2:j=i
         . subst q2;exact e
         . exact h j xN h2
       . intro h j h1 h2;exact h j xN h2
   . rw[decide_eq_false (show ¬(i:Int)<32 by omega),cond_false]
     constructor
     . intro _ j h1 h2;omega
     . intro _;rfl
def LbOk (a:An_):Prop:=(0<=a.Fq_/\a.Fq_<=4294967295)/\0<=a.level/\a.level<=255
theorem Th_ {a b:An_} (ha:LbOk a) (hb:LbOk b):Cl_ a b=Bt_ a b:=by
 unfold Cl_ Bt_;by_cases q:a.level<=b.level;rw[decide_eq_true q,decide_eq_false (show ¬b.level<a.level by omega),cond_false,Bool.true_and];have hu:=Vb_ a b (32-0+1) 0 xN xN;have hx:∀ X:BitVec 32,IntKind.wrap .u32 (X.toNat:Int)=(X.toNat:Int):=λX=>by
   have :=X.isLt
   rw[IntKind.wrap_u32]
   omega
 show _ = decide (IntKind.wrap .u32 ((BitVec.ofInt 32 a.Fq_ &&& ~~~ BitVec.ofInt 32 b.Fq_).toNat:Int)=0);rw[hx];have hz:((BitVec.ofInt 32 a.Fq_ &&& ~~~ BitVec.ofInt 32 b.Fq_).toNat:Int)=0↔∀ j:Nat,0<=j->j<32->(B7_ a (j:Int)&&!B7_ b (j:Int))=false:=by
   constructor
   . intro h j _ hj
     have h0:(BitVec.ofInt 32 a.Fq_ &&& ~~~ BitVec.ofInt 32 b.Fq_)=0#32:=by
       apply BitVec.eq_of_toNat_eq
       simp only[BitVec.toNat_ofNat]
       omega
     have :=congrArg (λX:BitVec 32=>X.getLsbD j) h0
     simp only[BitVec.getLsbD_and,BitVec.getLsbD_not,BitVec.getLsbD_zero] at this
     rw[Je_ ha.1 hj,Je_ hb.1 hj]
     simpa [hj] using this
   . intro h
     have h0:(BitVec.ofInt 32 a.Fq_ &&& ~~~ BitVec.ofInt 32 b.Fq_)=0#32:=by
       apply BitVec.eq_of_getLsbD_eq
       intro j hj
       have :=h j (Nat.zero_le j) hj
       rw[Je_ ha.1 hj,Je_ hb.1 hj] at this
       simp only[BitVec.getLsbD_and,BitVec.getLsbD_not,BitVec.getLsbD_zero]
       simpa [hj] using this
     rw[h0];rfl
 by_cases q2:((BitVec.ofInt 32 a.Fq_ &&& ~~~ BitVec.ofInt 32 b.Fq_).toNat:Int)=0;rw[decide_eq_true q2];exact hu.2 (hz.1 q2)
 . rw[decide_eq_false q2]
   cases e:A9_ a b (32-0+1) 0 with
   |false=>rfl
   |true=>exact (q2 (hz.2 (hu.1 e))).elim
 rw[decide_eq_false q,decide_eq_true (show b.level<a.level by omega)];rfl
theorem Ti_ {p:A_} (hL:∀ y∈p.places,LbOk y.label) (a b:Int):Eg_ p a b=Ak_ p a b:=by
 unfold Eg_ Ak_ L_ Ap_;by_cases ha:0<=a/\a<p.places.length;by_cases hb:0<=b/\b<p.places.length;rw[Th_ (hL _ (Uy_ xN)) (hL _ (Uy_ xN))];rw[decide_eq_true ha.1,decide_eq_true ha.2,decide_eq_true hb.1,decide_eq_true hb.2,decide_eq_true (show a<=(p.places.length:Int)-1 by omega),decide_eq_true (show b<=(p.places.length:Int)-1 by omega)];simp;by_cases q:0<=b;rw[decide_eq_false (show ¬b<(p.places.length:Int) by omega),decide_eq_false (show ¬b<=(p.places.length:Int)-1 by omega)];simp;rw[decide_eq_false q];simp;by_cases q:0<=a;rw[decide_eq_false (show ¬a<(p.places.length:Int) by omega),decide_eq_false (show ¬a<=(p.places.length:Int)-1 by omega)];simp;rw[decide_eq_false q];simp
section
variable {gone more:List OutR} {lost i e:Int} {x y:Iy_} {f:Nat}
end
section
variable {t:Int} {gone:List OutR} {name:Bs} {ok:Bool} {x:Iy_} {m:Mail} {f:Nat} {r1:Ix_×Aw_×Int} {r2:Bs×Mail×Bool}
end
theorem lb_of {p:A_} (h:(PV.agg (A_.pc p)).wf):∀ y∈p.places,LbOk y.label:=λy hy=>by
 have :=h.2.2.1.2 y hy
 exact⟨this.2.2.1,this.2.1⟩
theorem Nl_ {D E:Int->Int->Bool} {n:Nat} (h:∀ a b:Int,(decide (a=b)||D a b)=(decide (a=b)||E a b)):∀ (k:Nat) (a b:Int),rch D k a b=rch E k a b
 |0,a,b=>by simp only[rch,h a b]
 |k+1,a,b=>by
   have ih:=Nl_ h (n:=n) k
   simp only[rch,ih]
theorem Ld_ {p:A_} (hL:∀ y∈p.places,LbOk y.label) (a b:Int):(decide (a=b)||T_ p a b)=(decide (a=b)||Au_ p a b):=by
 simp only[T_,Au_,Ti_ hL,Re_]
 cases decide (a=b)<;>simp
theorem If_ {p:A_} (hL:∀ y∈p.places,LbOk y.label) (n:Nat) (a b:Int):Cg_ (Au_ p) n a b=Cg_ (T_ p) n a b:=by
 simp only[Cg_];rw[Nl_ (n:=n) (Ld_ hL) n a b]
theorem Rf_ {p:A_} (hL:∀ y∈p.places,LbOk y.label) (place:Int):∀ (l out:List C_),Ai_ p place l out=M_ p place l out
 |[],out=>rfl
 |x::t,out=>by
   simp only[Ai_,M_,If_ hL]
   cases (decide (x.kind=3)||Cg_ (T_ p) p.places.length x.place place) with
   |true=>exact Rf_ hL place t _
   |false=>exact Rf_ hL place t _
theorem Ml_ (r:List C_):∀ (t:List C_) (k:Nat),t=r.drop k->R_ r t k=true
 |[],_,_=>rfl
 |x::t,k,h=>by
   have hx:gt r k=x:=by
     have :(r.drop k)[0]? = some x:=by rw[<- h];rfl
     rw[List.getElem?_drop] at this
     simp only[gt,List.getD];simp only[Nat.add_zero] at this;rw[this];rfl
   have ht:t=r.drop (k+1):=by
     rw[<- List.drop_drop,<- h];rfl
   simp only[R_,hx,decide_true,Bool.not_true,cond_false]
   exact Ml_ r t (k+1) ht
theorem law32_comes (p:A_) (a b:Int) (l:List C_) (hpw:(PV.agg (A_.pc p)).wf):Bi_ p a b l=true:=by
 have hL:∀ y∈p.places,LbOk y.label:=lb_of hpw;simp only[Bi_,lt,to_eq,Kc_];rw[show Dh_ p b l=Al_ p b l from Rf_ hL b l [],If_ hL];simp only[beq_self_eq_true,Bool.not_true,decide_true,Bool.or_self,cond_false];rw[Ml_ (Al_ p b l) (Al_ p b l) 0 rfl]
 cases ((!E8_ p)||(!Ci_ l))<;>rfl
end Go.SW.V
