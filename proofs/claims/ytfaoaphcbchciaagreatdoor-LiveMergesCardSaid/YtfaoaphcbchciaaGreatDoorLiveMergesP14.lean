/-
  A part of the proof of LiveMerges: The walks of this seat, printed by program: stairwelllaw30.Light.
-/
import Derived.Test.YtfaoaphcbchciaaGreatDoorProg
import Derived.Test.YtfaoaphcbchciaaGreatDoorLiveMergesP2
import Derived.KernelRfl
import Derived.Test.YtfaoaphcbchciaaGreatDoorLiveMergesP13
set_option linter.unusedVariables false
set_option linter.unusedSimpArgs false
set_option maxRecDepth 100000
set_option maxHeartbeats 4000000
open Go.Proofs.Tryz
namespace Go.SW.V
open Go.SW Go.Proofs
theorem Gf_ (l:List A_):Fn prog gb 8 [.sl A_.pc l] (.bool (Z_ l)):=by
 refine kG func8 ntmps8 λw N H hG=>?_;have l_l:l.length<=140737488355328:=w.1.1;have e0:=Z_.eq_1 l;generalize Z_ l=z at e0 ⊢;refine kA 14 ?_;refine loop (ι:=Nat) [0,5,6] [] (λk=>[(7, .int .i64 (k:Int))]) (λk=>[]) (λk=>k<=l.length/\z=X_ l (l.drop k)) (λk=>l.length-k) 0 ⟨Y,Z⟩ Z ?_ ?_;exact⟨Nat.zero_le _,e0⟩;rintro k ⟨hp1_1,hp1_2⟩;refine kN 6 (λp0=>?_) λp1=>?_;have e1:=Cs_ (f:=λzz=>X_ l zz) hp1_2 (F9_ yY) (X_.eq_2 _ _ _);have hc0:=getG (xs:=l) (k:=k) yY;refine jA 6 Y<|kI k hc0 λw0=>?_;refine kB 13 [0] λB0=>?_;refine cD e1 (λp2 e2=>?_) (λp3 e3=>?_);refine kA 11 ?_;subst e2;exact qr1;refine kC 7 ?_;refine next (k+1) Y Y ⟨Y,Z⟩ Z ?_ ?_;exact zA;exact⟨by (try simp only[]);omega,e3⟩;have e1:=Cs_ (f:=λzz=>X_ l zz) hp1_2 (G4_ yY) (X_.eq_1 _);refine kA 14 ?_;subst e1;exact qr1
theorem Fn_ (lists:List (List A_)) (hl:lists.length<=10/\∀ l∈lists,l.length<=80:=by assumption):Fn prog gb 9 [.sl (slc A_.pc) lists] (.sl A_.pc (A2_ lists)):=by
 refine kG func9 ntmps9 λw N H hG=>?_;have lists_l:lists.length<=140737488355328:=w.1.1;have hll:=hl.1;have e0:=A2_.eq_1 lists;refine kA 18 ?_;refine sw_own (t:=3) (k:=6) (e:=30) 0 A_.pc Y Y ?_;refine loop (ι:=Nat×(List A_)×Int×Bool×Value) [0,2] [] (λ⟨f,out,k,more,u_out⟩=>[(3, .osl 0),(4, .int .i64 k),(5, .bool more)]) (λ⟨f,out,k,more,u_out⟩=>[(0, .arr u_out 6 30 A_.pc out)]) (λ⟨f,out,k,more,u_out⟩=>(bif more then 82-((k:Int)).toNat else 0)<f/\A2_ lists=Ai_ lists f out k more/\(0<=k/\k<=81)/\(more=true->k<=80)/\(out.length:Int)<=10*k) (λ⟨f,out,k,more,u_out⟩=>f) ⟨((bif true then 82-((0:Int)).toNat else 0)+1),[],0,true,(.slice none 0 0)⟩ ⟨Y,Y,Y,Z⟩ ⟨Y,Z⟩ ?_ ?_;exact⟨Nat.lt_succ_self _,e0,⟨⟨by omega,by omega⟩,(λ_=>by omega),by simp⟩⟩;rintro⟨f,out,k,more,u_out⟩ ⟨hp1_1,hp1_2,hp1_3⟩;obtain⟨⟨hi0,hi1⟩,hi2,hi3⟩:=hp1_3;obtain⟨f1,rfl⟩:∃ q,f=q+1:=⟨f-1,by omega⟩;have e_f1:=hp1_2.trans (Ai_.eq_2 _ _ _ _ _);refine jA 6 Y<|cE e_f1 (λh0 e1=>?_) (λh0 e2=>?_);refine kA 3 ?_;obtain⟨o,e_o,q_o⟩:=Le_ e1;refine joinc (ι:=(List A_)×Bool×Value) [0,2,4] [] (λ⟨out1,more1,u_out1⟩=>[(3, .osl 0),(5, .bool more1)]) (λ⟨out1,more1,u_out1⟩=>[(0, .arr u_out1 6 30 A_.pc out1)]) (λ⟨out1,more1,u_out1⟩=>o=(out1,more1)/\(more1=true->k<80)/\(out1.length:Int)<=10*k+10) ?_ ?_;refine kA 14 ?_;refine loop (ι:=Nat×(List A_)×Bool×Value) [0,2,4,11,12] [] (λ⟨k0,out2,more2,u_out2⟩=>[(13, .int .i64 (k0:Int)),(3, .osl 0),(5, .bool more2)]) (λ⟨k0,out2,more2,u_out2⟩=>[(0, .arr u_out2 6 30 A_.pc out2)]) (λ⟨k0,out2,more2,u_out2⟩=>k0<=lists.length/\o=T_ k (lists.drop k0) out2 more2/\(more2=true->k<80)/\(out2.length:Int)<=10*k+(k0:Int)) (λ⟨k0,out2,more2,u_out2⟩=>lists.length-k0) ⟨0,out,false,(u_out)⟩ ⟨Y,Y,Y,Z⟩ ⟨Y,Z⟩ ?_ ?_;exact⟨Nat.zero_le _,e_o,⟨(λq=>by cases q),by omega⟩⟩
 rintro⟨k0,out2,more2,u_out2⟩ ⟨hp4_1,hp4_2,hp4_3⟩;obtain⟨hm1,hm2⟩:=hp4_3;refine kN 6 (λp0=>?_) λp1=>?_;have e3:=Cs_ (f:=λzz=>T_ k zz out2 more2) hp4_2 (F9_ yY) (T_.eq_2 _ _ _ _ _);have hc0:=getG (xs:=lists) (k:=k0) yY
 (try have hz_hc8:=hl.2 _ (List.mem_of_getElem? hc0))
 refine jA 6 Y<|kI k0 hc0 λw0=>?_;refine jA 12 Y<|cD e3 (λp2 e4=>?_) (λp3 e5=>?_);have hc1:=getG (xs:=(gt lists k0)) (k:=(k).toNat) yY
 (try have hz_hc13:=hl.2 _ (List.mem_of_getElem? hc1))
 refine jA 5 Y<|q1 (qidx B4_ (k).toNat Y Y yY hc1 Y Y Y Y) Y λw1=>jA 1 Y<|ef (bsl 1 A_.pc [(gt (gt lists k0) ((k).toNat))] B4_ Y Y Y Y Y (λ_=>rfl) Y xB xB Y λu0=>?_);refine ef (app B4_ [(gt (gt lists k0) ((k).toNat))] Y Y Y Y Y Y Y Y Y (src_o Y Y) xS Y λu1=>?_);refine kC 12 ?_;refine next ⟨(k0+1),(out2++[(gt (gt lists k0) ((k).toNat))]),true,(u1)⟩ Y Y ⟨Y,Y,Y,Z⟩ ⟨Y,Z⟩ ?_ ?_;exact zA;exact⟨by (try simp only[]);omega,e4,⟨(by first|assumption|(intro _;omega)),xV⟩⟩;refine kC 7 ?_;refine next ⟨(k0+1),out2,more2,(u_out2)⟩ Y Y ⟨Y,Y,Y,Z⟩ ⟨Y,Z⟩ ?_ ?_;exact zA;exact⟨by (try simp only[]);omega,e5,⟨(by first|assumption|(intro _;omega)),xV⟩⟩;have e3:=Cs_ (f:=λzz=>T_ k zz out2 more2) hp4_2 (G4_ yY) (T_.eq_1 _ _ _);refine kA 5 ?_;refine nX ⟨out2,more2,(u_out2)⟩ ?_ ⟨Y,Y,Z⟩ ⟨Y,Z⟩;exact⟨e3,⟨xI,yY⟩⟩;rintro⟨out1,more1,u_out1⟩ ⟨hp21,hp21_3⟩;have e3:=lt2_fin q_o hp21;refine kC 6 ?_;refine next ⟨f1,out1,(k+1),more1,(u_out1)⟩ Y Y ⟨Y,Y,Y,Z⟩ ⟨Y,Z⟩ ?_ ?_;exact zA;exact⟨(mg_step xI xI yY (by first|omega|(have :=hi2 xI;omega)) (by assumption :(more1=true->k<80)/\(out1.length:Int)<=10*k+10).1),e3,⟨⟨by omega,(by have :=hi2 xI;omega)⟩,(λq=>by have :=(by assumption :(more1=true->k<80)/\(out1.length:Int)<=10*k+10).1 q;omega),(by have :=(by assumption :(more1=true->k<80)/\(out1.length:Int)<=10*k+10).2;omega)⟩⟩;refine kA 11 ?_;refine givec 0 Y<|kA 1 ?_;exact rt1 Y Y (Pk_ (λr:(List A_)=> .sl A_.pc r) e2 (ple Y))
theorem Gq_ (lists:List (List A_)) (hl:lists.length<=10/\∀ l∈lists,l.length<=80:=by assumption):Fn prog gb 10 [.sl (slc A_.pc) lists] (.sl A_.pc (A8_ lists)):=by
 refine kG func10 ntmps10 λw N H hG=>?_;have lists_l:lists.length<=140737488355328:=w.1.1;have hll:=hl.1;have e0:=A8_.eq_1 lists;refine kA 19 ?_;refine loop (ι:=Nat×Int) [0,2,10,11] [] (λ⟨k,most⟩=>[(12, .int .i64 (k:Int)),(3, .int .i64 most)]) (λ⟨k,most⟩=>[]) (λ⟨k,most⟩=>k<=lists.length/\A8_ lists=Y_ lists (lists.drop k) most/\0<=most/\most<=80) (λ⟨k,most⟩=>lists.length-k) ⟨0,0⟩ ⟨Y,Y,Z⟩ Z ?_ ?_;exact⟨Nat.zero_le _,e0,⟨by omega,by omega⟩⟩;rintro⟨k,most⟩ ⟨hp1_1,hp1_2,hp1_3⟩;obtain⟨hm0,hm1⟩:=hp1_3;refine kN 6 (λp0=>?_) λp1=>?_;have e1:=Cs_ (f:=λzz=>Y_ lists zz most) hp1_2 (F9_ yY) (Y_.eq_2 _ _ _ _);have hc0:=getG (xs:=lists) (k:=k) yY
 (try have hz_hc5:=hl.2 _ (List.mem_of_getElem? hc0))
 refine jA 6 Y<|kI k hc0 λw0=>?_;refine kC 17 ?_;refine next ⟨(k+1),(max most ((gt lists k).length:Int))⟩ Y Y ⟨Y,Y,Z⟩ Z ?_ ?_;exact zA;exact⟨by (try simp only[]);omega,e1,⟨by omega,by omega⟩⟩;have e1:=Cs_ (f:=λzz=>Y_ lists zz most) hp1_2 (G4_ yY) (Y_.eq_1 _ _);refine kA 17 ?_;refine sw_own (t:=6) (k:=6) (e:=31) 0 A_.pc Y Y ?_;refine loop (ι:=Nat×(List A_)×Nat×Value) [0,2,3] [] (λ⟨f,out,k0,u_out⟩=>[(6, .osl 0),(7, .int .i64 (k0:Int))]) (λ⟨f,out,k0,u_out⟩=>[(0, .arr u_out 6 31 A_.pc out)]) (λ⟨f,out,k0,u_out⟩=>(most-(k0:Int)).toNat<f/\A8_ lists=Af_ lists most f out k0/\(out.length:Int)<=10*(k0:Int)/\(k0:Int)<=80) (λ⟨f,out,k0,u_out⟩=>f) ⟨((most-(0:Int)).toNat+1),[],0,(.slice none 0 0)⟩ ⟨Y,Y,Z⟩ ⟨Y,Z⟩ ?_ ?_;exact⟨Nat.lt_succ_self _,e1,⟨by simp,by omega⟩⟩;rintro⟨f,out,k0,u_out⟩ ⟨hp9_1,hp9_2,hp9_3⟩;obtain⟨hn0,hn1⟩:=hp9_3;obtain⟨f1,rfl⟩:∃ q,f=q+1:=⟨f-1,by omega⟩;have e_f1:=hp9_2.trans (Af_.eq_2 _ _ _ _ _);refine jA 8 Y<|cD e_f1 (λp2 e2=>?_) (λp3 e3=>?_);refine kA 3 ?_;obtain⟨o,e_o,q_o⟩:=Ld_ e2;refine joinc (ι:=(List A_)×Value) [0,2,3,7] [] (λ⟨out1,u_out1⟩=>[(6, .osl 0)]) (λ⟨out1,u_out1⟩=>[(0, .arr u_out1 6 31 A_.pc out1)]) (λ⟨out1,u_out1⟩=>o=out1/\(out1.length:Int)<=10*(k0:Int)+10) ?_ ?_;refine kA 9 ?_;refine loop (ι:=Nat×(List A_)×Value) [0,2,3,7,26,27] [] (λ⟨k1,out2,u_out2⟩=>[(28, .int .i64 (k1:Int)),(6, .osl 0)]) (λ⟨k1,out2,u_out2⟩=>[(0, .arr u_out2 6 31 A_.pc out2)]) (λ⟨k1,out2,u_out2⟩=>k1<=lists.length/\o=U_ k0 (lists.drop k1) out2/\(out2.length:Int)<=10*(k0:Int)+(k1:Int)) (λ⟨k1,out2,u_out2⟩=>lists.length-k1) ⟨0,out,(u_out)⟩ ⟨Y,Y,Z⟩ ⟨Y,Z⟩ ?_ ?_;exact⟨Nat.zero_le _,e_o,by omega⟩;rintro⟨k1,out2,u_out2⟩ ⟨hp13_1,hp13_2,hp13_3⟩;refine kN 6 (λp4=>?_) λp5=>?_;have e4:=Cs_ (f:=λzz=>U_ k0 zz out2) hp13_2 (F9_ yY) (U_.eq_2 _ _ _ _);have hc0:=getG (xs:=lists) (k:=k1) yY
 (try have hz_hc17:=hl.2 _ (List.mem_of_getElem? hc0))
 refine jA 6 Y<|kI k1 hc0 λw0=>?_;refine jA 12 Y<|cD e4 (λp6 e5=>?_) (λp7 e6=>?_);have hc1:=getG (xs:=(gt lists k1)) (k:=k0) yY
 (try have hz_hc22:=hl.2 _ (List.mem_of_getElem? hc1))
 refine jA 4 Y<|kI k0 hc1 λw1=>?_;refine jA 1 Y<|ef (bsl 1 A_.pc [(gt (gt lists k1) k0)] B4_ Y Y Y Y Y (λ_=>rfl) Y xB xB Y λu0=>?_);refine ef (app B4_ [(gt (gt lists k1) k0)] Y Y Y Y Y Y Y Y Y (src_o Y Y) xS Y λu1=>?_);refine kC 8 ?_;refine next ⟨(k1+1),(out2++[(gt (gt lists k1) k0)]),(u1)⟩ Y Y ⟨Y,Y,Z⟩ ⟨Y,Z⟩ ?_ ?_;exact zA;exact⟨by (try simp only[]);omega,e5,xV⟩;refine kC 7 ?_;refine next ⟨(k1+1),out2,(u_out2)⟩ Y Y ⟨Y,Y,Z⟩ ⟨Y,Z⟩ ?_ ?_;exact zA;exact⟨by (try simp only[]);omega,e6,xV⟩;have e4:=Cs_ (f:=λzz=>U_ k0 zz out2) hp13_2 (G4_ yY) (U_.eq_1 _ _);refine kA 5 ?_;refine nX ⟨out2,(u_out2)⟩ ?_ ⟨Y,Z⟩ ⟨Y,Z⟩;exact⟨e4,yY⟩;rintro⟨out1,u_out1⟩ ⟨hp30,hp30_3⟩;have e4:=lt1_fin q_o hp30;refine kC 6 ?_;refine next ⟨f1,out1,(k0+1),(u_out1)⟩ Y Y ⟨Y,Y,Z⟩ ⟨Y,Z⟩ ?_ ?_;exact zA;exact⟨by (try simp only[]);omega,e4,⟨by omega,by omega⟩⟩;refine kA 11 ?_;refine givec 0 Y<|kA 1 ?_;exact rt1 Y Y (Pk_ (λr:(List A_)=> .sl A_.pc r) e3 (ple Y))
abbrev R0_:(List A_)->PV:=λr=> .sl A_.pc r
theorem ag28:Ag prog 28 false:=λw=>by kernel_rfl
theorem ag3:Ag prog 3 false:=λw=>by kernel_rfl
theorem ag5:Ag prog 5 false:=λw=>by kernel_rfl
theorem ag9:Ag prog 9 false:=λw=>by kernel_rfl
theorem eqg31:prog.eqGuardType prog.depth 31=false:=by kernel_rfl
theorem veq31 (p q:A_):∀ (H:Hp) (vs us:List Value),Sims H (A_.pc p) vs->Sims H (A_.pc q) us->EqV prog 10000 31 (.agg vs.toArray) (.agg us.toArray) (decide (p=q)):=by
 intro H vs us hv hu;obtain⟨_,_,rfl,v0,v_0⟩:=hv.inv_cons;obtain⟨_,_,rfl,v1,v_1⟩:=v_0.inv_cons;obtain⟨_,_,rfl,v2,v_2⟩:=v_1.inv_cons;obtain⟨_,_,rfl,v3,v_3⟩:=v_2.inv_cons;obtain⟨_,_,rfl,v4,v_4⟩:=v_3.inv_cons;obtain⟨_,_,rfl,v5,v_5⟩:=v_4.inv_cons
 cases v_5.inv_nil
 cases v0.inv_int.1;cases v1.inv_int.1;cases v2.inv_int.1;cases v3.inv_str.1;cases v4.inv_int.1;cases v5.inv_int.1
 obtain⟨_,_,rfl,u0,u_0⟩:=hu.inv_cons;obtain⟨_,_,rfl,u1,u_1⟩:=u_0.inv_cons;obtain⟨_,_,rfl,u2,u_2⟩:=u_1.inv_cons;obtain⟨_,_,rfl,u3,u_3⟩:=u_2.inv_cons;obtain⟨_,_,rfl,u4,u_4⟩:=u_3.inv_cons;obtain⟨_,_,rfl,u5,u_5⟩:=u_4.inv_cons
 cases u_5.inv_nil
 cases u0.inv_int.1;cases u1.inv_int.1;cases u2.inv_int.1;cases u3.inv_str.1;cases u4.inv_int.1;cases u5.inv_int.1
 exact EqV.to' (Kd_ underlying31 yZ (G7_ xB ag5 Y Y (C4_ underlying5) (G7_ xB ag3 Y Y (C4_ underlying3) (G7_ xB ag28 Y Y (C4_ underlying28) (G7_ xB ag9 Y Y (Ke_ underlying9) (G7_ xB ag3 Y Y (C4_ underlying3) (G7_ xB ag3 Y Y (C4_ underlying3) Kc_))))))) (by obtain⟨a0,a1,a2,a3,a4,a5⟩:=p;obtain⟨b0,b1,b2,b3,b4,b5⟩:=q;rw[Bool.eq_iff_iff];simp)
theorem Ky_:Fn prog gb 7 [] (.bool true):=Go.CE.f34a
theorem l34_LiveMerges_ok (lists:List (List A_)):Fn prog gb 3 [.sl (slc A_.pc) lists] (.bool (Al_ lists)):=by
 refine kG func3 ntmps3 λw N H hG=>?_;have lists_l:lists.length<=140737488355328:=w.1.1;have e0:=Al_.eq_1 lists;generalize Al_ lists=z at e0 ⊢;refine kL 8 Ky_ Y Y Y λw0=>kA 3 ?_;refine cndF Y Y ?_;refine jA 10 Y<|cD e0 (λp0 e1=>?_) (λp1 e2=>?_);refine kA 7 ?_;subst e1;exact qr1;refine kA 16 ?_;refine sw_own (t:=3) (k:=1) (e:=27) 0 (slc A_.pc) Y Y ?_;refine loop (ι:=Nat×(List (List A_))×Value) [0,18,19] [] (λ⟨k,q,u_q⟩=>[(20, .int .i64 (k:Int)),(3, .osl 0)]) (λ⟨k,q,u_q⟩=>[(0, .arr u_q 1 27 (slc A_.pc) q)]) (λ⟨k,q,u_q⟩=>k<=lists.length/\z=I_ lists (lists.drop k) q/\q=lists.take k/\∀ y∈lists.take k,Z_ y=true) (λ⟨k,q,u_q⟩=>lists.length-k) ⟨0,[],(.slice none 0 0)⟩ ⟨Y,Y,Z⟩ ⟨Y,Z⟩ ?_ ?_;exact⟨Nat.zero_le _,e2,⟨rfl,(λy h=>by cases h)⟩⟩
 rintro⟨k,q,u_q⟩ ⟨hp7_1,hp7_2,hp7_3⟩;obtain⟨hqa,hla⟩:=hp7_3;have hql:q.length<=10:=by rw[hqa,List.length_take];omega
 refine kM 6 (λh0=>?_) (λh0=>?_);have p2:=dt h0;have e3:=Cs_ (f:=λzz=>I_ lists zz q) hp7_2 (F9_ yY) (I_.eq_2 _ _ _ _);refine kA 3 ?_;obtain⟨o,e_o,q_o⟩:=Lc_ e3;refine joinc (ι:=(List (List A_))×Value) [0,18,19,20] [] (λ⟨q1,u_q1⟩=>[(3, .osl 0)]) (λ⟨q1,u_q1⟩=>[(0, .arr u_q1 1 27 (slc A_.pc) q1)]) (λ⟨q1,u_q1⟩=>o = .fin q1/\q1=q++[gt lists k]/\Z_ (gt lists k)=true) ?_ ?_;have hc0:=getG (xs:=lists) (k:=k) yY;refine jA 3 Y<|kI k hc0 λw1=>?_;refine kL 8 (Gf_ _) Y Y Y λw2=>jA 3 Y<|cE e_o (λh1 e4=>?_) (λh1 e5=>?_);have h2:=not_t h1;refine kA 13 ?_;have e6:=lp1_ret q_o e4;subst e6;exact qr1;have h2:=not_f h1;have hb18:=Hc_ h2
 (try obtain⟨hb18a,hb18b⟩:=hb18)
 refine kA 16 ?_;refine sw_own (t:=6) (k:=6) (e:=31) 1 A_.pc Y Y ?_;refine loop (ι:=Nat×(List A_)×Value) [0,3,18,19,20,27,28] [0] (λ⟨k0,m,u_m⟩=>[(29, .int .i64 (k0:Int)),(6, .osl 1)]) (λ⟨k0,m,u_m⟩=>[(1, .arr u_m 6 31 A_.pc m)]) (λ⟨k0,m,u_m⟩=>k0<=(gt lists k).length/\o=J_ q ((gt lists k).drop k0) m/\m=(gt lists k).take k0) (λ⟨k0,m,u_m⟩=>(gt lists k).length-k0) ⟨0,[],(.slice none 0 0)⟩ ⟨Y,Y,Z⟩ ⟨Y,Z⟩ ?_ ?_;exact⟨Nat.zero_le _,e5,rfl⟩;rintro⟨k0,m,u_m⟩ ⟨hp21_1,hp21_2,hp21_3⟩;have hp_m:=hp21_3;have hml:m.length<=k0:=by rw[hp_m,List.length_take];omega
 refine kN 6 (λp3=>?_) λp4=>?_;have e6:=Cs_ (f:=λzz=>J_ q zz m) hp21_2 (F9_ yY) (J_.eq_2 _ _ _ _);have hc1:=getG (xs:=(gt lists k)) (k:=k0) yY;refine jA 6 Y<|kI k0 hc1 λw3=>?_;refine kB 8 [2] λB0=>?_;refine ef (bsl 3 A_.pc [(gt (gt lists k) k0)] B4_ Y Y Y Y Y (λ_=>rfl) Y xB xB Y λu0=>?_);refine ef (app B4_ [(gt (gt lists k) k0)] Y Y Y Y Y Y Y Y Y (src_o Y Y) xS Y λu1=>?_);refine kC 8 ?_;refine next ⟨(k0+1),(m++[(gt (gt lists k) k0)]),(u1)⟩ Y Y ⟨Y,Y,Z⟩ ⟨Y,Z⟩ ?_ ?_;exact zA;exact⟨by (try simp only[]);omega,e6,by rw[hp_m];exact (lm_t yY).symm⟩;have e6:=Cs_ (f:=λzz=>J_ q zz m) hp21_2 (G4_ yY) (J_.eq_1 _ _);refine kA 8 ?_;refine give 1 Y<|ef (bsl 1 (slc A_.pc) [m] B4_ Y Y Y Y Y (λ_=>rfl) Y xB xB Y λu0=>?_);refine ef (app B4_ [m] Y Y Y Y Y Y Y Y Y (src_o Y Y) xS Y λu1=>?_);refine kA 3 ?_;refine nX ⟨(q++[m]),(u1)⟩ ?_ ⟨Y,Z⟩ ⟨Y,Z⟩;exact⟨e6,⟨by rw[hp_m,List.take_of_length_le yY],by assumption⟩⟩;rintro⟨q1,u_q1⟩ ⟨hp35,hp35_3⟩;have e4:=lp1_fin q_o hp35;refine kC 5 ?_;refine next ⟨(k+1),q1,(u_q1)⟩ Y Y ⟨Y,Y,Z⟩ ⟨Y,Z⟩ ?_ ?_;exact zA;exact⟨by (try simp only[]);omega,e4,⟨lm_a yY hqa (by assumption :q1=q++[gt lists k]/\Z_ (gt lists k)=true).1,lm_b yY hla (by assumption :q1=q++[gt lists k]/\Z_ (gt lists k)=true).2⟩⟩;have p2:=df h0;have e3:=Cs_ (f:=λzz=>I_ lists zz q) hp7_2 (G4_ yY) (I_.eq_1 _ _);refine jA 8 Y<|cV e3 R0_ (Fn_ _ (hl:=by exact Oz_ yY xI hla)) Y λr hr0 e4 w1=>kA 1 ?_;refine give 0 Y<|cV e4 R0_ (Gq_ _ (hl:=by rw[hqa,List.take_of_length_le yY];exact Oz_ yY xI hla)) Y λr0 hr1 e5 w2=>?_;refine kA 13 ?_;refine loop (ι:=Nat) [9,10,47,48] [] (λk0=>[(49, .int .i64 (k0:Int))]) (λk0=>[]) (λk0=>k0<=r.length/\z=K_ r r0 (r.drop k0) k0/\True) (λk0=>r.length-k0) 0 ⟨Y,Z⟩ Z ?_ ?_;exact⟨Nat.zero_le _,e5,trivial⟩;rintro k0 ⟨hp45_1,hp45_2,hp45_3⟩;have hrl:r.length<=140737488355328:=(by assumption :PV.wf (.sl A_.pc r)).1;refine kM 6 (λh1=>?_) (λh1=>?_);have p3:=dt h1;have e6:=Cs_ (f:=λzz=>K_ r r0 zz k0) hp45_2 (F9_ yY) (K_.eq_2 _ _ _ _ _);have hc0:=getG (xs:=r) (k:=k0) yY;refine jA 7 Y<|kI k0 hc0 λw3=>?_;refine kB 7 [0] λB0=>?_;refine aN [1,2,3,4,5,6] 12 mixd<|kE [0,1,2,3,4,5,6,7] 4 ?_;refine vqg 8 [60,61] Y yZ Y Y (λhc=>qidx B4_ k0 Y Y Y (getG (by first|omega|(simp only[gOf,bl2] at *;omega))) Y Y Y Y) ⟨(λhc=>hc),(λhc=>hc),trivial⟩ Y λ_=>?_;refine kF [9] 2 ?_;refine vqg 10 [59,63] Y yZ Y Y (λhc=>sane Y Y eqg31 (veq31 (gt r k0) (gt r0 k0))) ⟨(λhc=>hc),(λhc=>hc),trivial⟩ Y λ_=>kF [11] 0 ?_;refine vD<|jA 1 Y<|cE e6 (λh2 e7=>?_) (λh2 e8=>?_);refine kA 11 ?_;subst e7;exact qr1;have h3:=orl h2;have p4:=df h3;have h4:=orr h2;have h5:=not_f h4;have p5:=dt h5;refine kC 7 ?_;refine next (k0+1) Y Y ⟨Y,Z⟩ Z ?_ ?_;exact zA;exact⟨by (try simp only[]);omega,e8,trivial⟩;have p3:=df h1;have e6:=Cs_ (f:=λzz=>K_ r r0 zz k0) hp45_2 (G4_ yY) (K_.eq_1 _ _ _);refine kA 16 ?_;subst e6;exact qr1
end Go.SW.V
namespace Go.SW
open Go.ChangeShapes Go.WideShapes Go.ChangeAt Go.RowKit
variable {P:Program}
theorem Fb_ {Ht:Type} {enc:TypeId×Value->Ht} {w:World} {base:Nat} {sp:Nat->Bool} {held:Bool} {fuel:Nat} {t e:TypeId} {n:Nat} {cs:List Value} {zs:List Bs} {p:List MemPlace}
   (ht:P.underlying t=some (.array n e)) (he:P.underlying e=some .string) (hce:P.cellsOf e=1) (hct:P.cellsOf t=n)
   (h:DataW.trod enc P w base sp held fuel t cs=some (.agg (zs.map λz=> .lit (.string z)),p)):cs=zs.map str:=by
 cases fuel with
 |zero=>simp[DataW.trod] at h
 |succ fuel=>
   simp only[DataW.trod,ht,hce,hct,Nat.mul_one] at h
   split at h
   . rename_i hl
     obtain⟨xs,hm,hx⟩:=Option.map_eq_some_iff.1 h
     have hxs:xs.map (·.1)=zs.map λz=>(DataW.lit (.string z):DataW Ht):=by
       have :=congrArg Prod.fst hx
       exact yR
     have hxl:xs.length=n:=by simpa using Lib.mapM_length hm
     have hzl:zs.length=n:=by
       have :=congrArg List.length hxs
       simp at this
       omega
     apply List.ext_getElem?
     intro i
     by_cases hi:i<n
     . obtain⟨b,hb,hf⟩:=Lib.mapM_at hm i i (by simp[hi])
       obtain⟨z,hc,rfl,_⟩:=DataW.trod_string he hf
       have h1:cs[i]? = some (.string z):=by
         have :=congrArg (·[0]?) hc
         simpa [List.getElem?_take,List.getElem?_drop] using this
       have h2:(xs.map (·.1))[i]? = some (DataW.lit (.string z.data.toList):DataW Ht):=by simp[hb]
       rw[hxs] at h2
       simp only[List.getElem?_map,Option.map_eq_some_iff,DataW.lit.injEq,Lit.string.injEq] at h2
       obtain⟨z',hz',rfl⟩:=h2
       rw[h1,List.getElem?_map,hz',I2_]
       rfl
     . rw[List.getElem?_eq_none yY,List.getElem?_eq_none xD]
   . cases h
theorem Nd_ {w:World} {g n:Nat} {name:String} {zs:List Bs} {rest:List (String×DataW Unit)} {t e:TypeId} (hg:P.globalNamed name=some g) (hty:(P.globals[g]?).map (·.type)=some t) (ht:P.underlying t=some (.array n e)) (he:P.underlying e=some .string) (hce:P.cellsOf e=1) (hct:P.cellsOf t=n)
   (h:laidMet P ((name, .agg (zs.map λz=> .lit (.string z)))::rest) w):GStrs (hp w) g zs:=by
 obtain⟨ps,⟨g',t',cs,fuel,p,q,hg',ht',hvar,hd,_,_⟩,_⟩:=h;obtain rfl :=Option.some.inj (hg.symm.trans hg');obtain rfl :=Option.some.inj (hty.symm.trans ht');have hc:=Fb_ ht he hce hct hd;obtain rfl :cs=(zs.map str).toArray:=by rw[<- hc]
 unfold World.var? at hvar;rw[hg] at hvar;simp only[Option.bind_some] at hvar
 split at hvar
 . rename_i cs T fr hh
   cases hvar
   exact⟨T,fr,hh⟩
 . cases hvar
end Go.SW
namespace Go.SW
def errD:DataW Unit->Bs
 | .iface _ (.ptr (.agg [.lit (.string b)]))=>b
 |_=>[]
def layE (pt low:Nat):Nat->List (Nat×DataW Unit)->Array Obj->Array Obj
 |_,[],h=>h
 | k,x::l,h=>layE pt low (k+1) l (h.modify x.1 λ
   | .cells _ t frozen=> .cells #[.iface pt (.pointer (some ⟨low+k,0,none⟩))] t frozen
   |o=>o)
noncomputable def laidWE (P:Program) (os:Os) (pt st:Nat) (l e:List (Nat×DataW Unit)):World:=
 let low:=(World.holding P os ⟨#[],#[],[]⟩).heap.size
 let w0:=World.holding P os ⟨(e.map λx=>Obj.cells #[.string ⟨(errD x.2).toArray⟩] st).toArray,#[],[]⟩
 {w0 with heap:=layE pt low 0 e (List.foldl (λh x=>h.modify x.1 (layD x.2)) w0.heap l)}
end Go.SW
namespace Go.SW.V
open Go.SW
def rowM (k:Nat):List (List A_)->List A_
 |[]=>[]
 |x::t=>(bif decide (k<x.length) then [gt x k] else [])++rowM k t
def anyM (k:Nat):List (List A_)->Bool
 |[]=>false
 |x::t=>decide (k<x.length)||anyM k t
theorem dk (k:Nat) (x:List A_):decide ((k:Int)<(x.length:Int)) = decide (k<x.length):=by
 by_cases h:k<x.length<;>simp[h]
theorem Nl_ (k:Nat):∀ (t:List (List A_)) (out:List A_) (m:Bool),T_ (k:Int) t out m=(out++rowM k t,m||anyM k t)
 |[],out,m=>by simp[T_,rowM,anyM]
 |x::t,out,m=>by
   simp only[T_,rowM,anyM]
   rw[dk]
   cases h:decide (k<x.length) with
   |true=>simp only[cond_true,Int.toNat_natCast,Bool.true_or,Bool.or_true];rw[Nl_ k t];simp
   |false=>simp only[cond_false,List.nil_append,Bool.false_or];exact Nl_ k t out m
theorem ref2 (k:Nat):∀ (t:List (List A_)) (out:List A_),U_ k t out=out++rowM k t
 |[],out=>by simp[U_,rowM]
 |x::t,out=>by
   simp only[U_,rowM]
   rw[dk]
   cases h:decide (k<x.length) with
   |true=>simp only[cond_true];rw[ref2 k t];simp
   |false=>simp only[cond_false,List.nil_append];exact ref2 k t out
def mxM:List (List A_)->Nat
 |[]=>0
 |x::t=>max x.length (mxM t)
theorem Ju_ (k:Nat):∀ (t:List (List A_)),anyM k t = decide (k<mxM t)
 |[]=>by simp[anyM,mxM]
 |x::t=>by
   show (decide (k<x.length)||anyM k t) = decide (k<max x.length (mxM t))
   rw[Ju_ k t]
   by_cases a:k<x.length
   . rw[decide_eq_true a,decide_eq_true (show k<max x.length (mxM t) by omega)];rfl
   . rw[decide_eq_false a,Bool.false_or]
     by_cases b:k<mxM t
     . rw[decide_eq_true b,decide_eq_true (show k<max x.length (mxM t) by omega)]
     . rw[decide_eq_false b,decide_eq_false (show ¬k<max x.length (mxM t) by omega)]
theorem Mb_ (k:Nat):∀ (t:List (List A_)),mxM t<=k->rowM k t=[]
 |[],_=>rfl
 |x::t,h=>by
   simp only[mxM] at h
   simp only[rowM]
   rw[Mb_ k t yY,show decide (k<x.length)=false from decide_eq_false yY];rfl
theorem Pf_ (ls:List (List A_)):∀ (t:List (List A_)) (m:Nat),Y_ ls t (m:Int)=Af_ ls ((max m (mxM t):Nat):Int) (((max m (mxM t):Nat):Int).toNat+1) [] 0
 |[],m=>by simp[Y_,mxM]
 |x::t,m=>by
   simp only[Y_,mxM]
   rw[show max (m:Int) (x.length:Int)=((max m x.length:Nat):Int) by omega,Pf_ ls t,Nat.max_assoc]
theorem Pd_ (ls:List (List A_)):∀ (d k f g:Nat) (out:List A_),mxM ls=k+d->d+2<=f->d+1<=g ->
   Ai_ ls f out (k:Int) true=Af_ ls ((mxM ls:Nat):Int) g out k
 |0,k,f,g,out,h,hf,hg=>by
   obtain⟨f,rfl⟩:∃ q,f=q+2:=⟨f-2,by omega⟩
   obtain⟨g,rfl⟩:∃ q,g=q+1:=⟨g-1,by omega⟩
   simp only[Ai_,cond_true,lt2,Nl_]
   rw[Ju_,Mb_ k ls yY,show decide (k<mxM ls)=false from decide_eq_false yY]
   simp only[Bool.or_false,cond_false,List.append_nil,Af_]
   rw[show decide ((k:Int)<((mxM ls:Nat):Int))=false from decide_eq_false yY];rfl
 |d+1,k,f,g,out,h,hf,hg=>by
   obtain⟨f,rfl⟩:∃ q,f=q+1:=⟨f-1,by omega⟩
   obtain⟨g,rfl⟩:∃ q,g=q+1:=⟨g-1,by omega⟩
   have ih:=Pd_ ls d (k+1) f g (out++rowM k ls) yY yY yY
   simp only[Ai_,cond_true,lt2,Nl_,Af_,lt1,ref2]
   rw[Ju_,show decide (k<mxM ls)=true from decide_eq_true yY,show decide ((k:Int)<((mxM ls:Nat):Int))=true from decide_eq_true yY]
   simp only[Bool.or_true,cond_true]
   rw[<- ih];rfl
theorem mx_le {n:Nat}:∀ (t:List (List A_)),(∀ y∈t,y.length<=n)->mxM t<=n
 |[],_=>Nat.zero_le _
 |x::t,h=>by
   have :=mx_le t λy hy=>h y (by simp[hy])
   have :=h x xA
   simp only[mxM];omega
theorem No_ {ls:List (List A_)} (h:∀ y∈ls,y.length<=80):A2_ ls=A8_ ls:=by
 have hm:=mx_le ls h;unfold A2_ A8_;rw[show (0:Int)=((0:Nat):Int) from rfl,Pf_,Nat.zero_max];exact Pd_ ls (mxM ls) 0 _ _ [] yY (by show mxM ls+2<=82+1;omega) yY
theorem same2 (r:List A_):∀ (t:List A_) (k:Nat),t=r.drop k->K_ r r t k=true
 |[],k,_=>by simp[K_]
 |x::t,k,h=>by
   have hk:k<r.length:=by
     have :=congrArg List.length h
     simp at this;omega
   have e:=F9_ hk
   rw[<- h] at e
   injection e with e1 e2
   simp only[K_]
   rw[<- e1,show decide ((r.length:Int)<=(k:Int))=false from decide_eq_false yY,decide_eq_true rfl]
   exact same2 r t (k+1) e2
theorem copy1 (q:List (List A_)):∀ (t m:List A_),J_ q t m = .fin (q++[m++t])
 |[],m=>by simp[J_]
 |x::t,m=>by simp only[J_];rw[copy1 q t];simp
theorem go0 (ls:List (List A_)):∀ (t q:List (List A_)),ls=q++t->(∀ y∈q,y.length<=80)->I_ ls t q=true
 |[],q,h,a=>by
   rw[List.append_nil] at h
   subst h
   simp only[I_,lt]
   rw[No_ a]
   exact same2 _ _ 0 Y
 |x::t,q,h,a=>by
   simp only[I_]
   cases hl:Z_ x with
   |false=>rfl
   |true=>
     simp only[Bool.not_true,cond_false,copy1,List.nil_append]
     show I_ ls t (q++[x])=true
     exact go0 ls t (q++[x]) (by rw[h];simp) λy hy=>by
       rcases List.mem_append.1 hy with hy|hy
       . exact a y hy
       . rw[List.mem_singleton.1 hy];exact Hc_ hl
theorem law34_merges (lists:List (List A_)):Al_ lists=true:=by
 unfold Al_
 cases h:decide (10<(lists.length:Int)) with
 |true=>rfl
 |false=>exact go0 lists lists [] Y λy hy=>by cases hy
end Go.SW.V
