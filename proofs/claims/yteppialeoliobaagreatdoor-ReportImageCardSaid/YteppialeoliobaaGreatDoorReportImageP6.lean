/-
  A part of the proof of ReportImage: The walks of this seat, printed by program: route.Book.Bind, route.Book.Leads.
-/
import Derived.Test.YteppialeoliobaaGreatDoorProg
import Derived.Test.YteppialeoliobaaGreatDoorReportImageP3
import Derived.KernelRfl
import Derived.Test.YteppialeoliobaaGreatDoorReportImageP5
import Derived.Test.YteppialeoliobaaGreatDoorReportImageP1
set_option linter.unusedVariables false
set_option linter.unusedSimpArgs false
set_option maxRecDepth 100000
set_option maxHeartbeats 4000000
open Go.Proofs.Tryz
namespace Go.SW.V
open Go.SW Go.Proofs
abbrev R0_:Int->PV:=λr=> .int .i64 r
theorem Jr_ (b:Ap_) (x:P_) (hb:b.binds.length<=1000:=by first|omega|(simp;omega)|decide +kernel) (hw:x.want.length<=1000:=by first|omega|(simp;omega)|decide +kernel):Fn prog gb 116 [.agg (Ap_.pc b), .agg (P_.pc x)] (.tup [.agg (Ap_.pc ((A4_ b x).1)), .int .i64 ((A4_ b x).2)]):=by
 refine kG func116 ntmps116 λw N H hG=>?_;have e0:=A4_.eq_1 b x;generalize A4_ b x=z at e0 ⊢;refine kB 13 [0,1,2] λB2=>?_;refine call (Po_ _ _) rfl rfl λw5=>kB 17 [3] λB7=>?_;refine cE e0 (λh8 e10=>?_) (λh8 e13=>?_)
 . have h9:=E7_ h8;refine kB 10 [] λ_=>?_;subst e10;exact qr2
 have h12:=Eu_ h8;refine kA 8 ?_;refine cD e13 (λp15 e16=>?_) (λp18 e19=>?_)
 . refine kB 10 [] λ_=>?_;subst e16;exact qr2
 refine kA 8 ?_;refine call (Ey_ _) rfl rfl λw20=>kA 9 ?_;refine cN e19 (λp23 e24=>?_) (λp27 e28=>?_)
 . refine kB 10 [] λ_=>?_;subst e24;exact qr2
 refine kA 8 ?_;refine call (Pn_ _ _) rfl rfl λw29=>call (Vk_ _) rfl rfl λw30=>kA 11 ?_;refine cN e28 (λp33 e34=>?_) (λp37 e38=>?_)
 . refine kB 11 [] λ_=>?_;subst e34;exact qr2
 refine kA 4 ?_;refine cV e38 R0_ (Ll_ _ _) rfl λr hr39 e41 w40=>?_;have hA41:=there_r b x
 (try rw[<- hr39] at hA41)
 refine kA 4 ?_;refine cD e41 (λp44 e45=>?_) (λp47 e48=>?_)
 . refine kB 10 [] λ_=>?_;subst e45;exact qr2
 refine kA 9 ?_;refine cD e48 (λp50 e51=>?_) (λp53 e54=>?_)
 . refine kB 10 [] λ_=>?_;subst e51;exact qr2
 refine kA 4 ?_;refine aN [4,5,6,7,8,9] 9 mixd<|kE [0,1,2] 6 ?_;refine vE 3 rfl (eC (Ur_ _) rfl λw55=>?_);refine vE 4 rfl (bsl 4 P_.pc [x] G_ rfl rfl rfl rfl rfl (λ_=>rfl) rfl (by decide) (by decide) rfl λu56=>?_);refine vE 5 rfl (Uf_ 4 rfl (bsl 4 (slc P_.pc) [b.binds,[x]] G_ rfl rfl rfl rfl rfl (λ_=>rfl) rfl (by decide) (by decide) rfl λu57=>?_));refine vE 6 rfl (Uf_ 4 rfl (eweak (eC (Sl_ _) rfl λw58=>?_)));have hfl58:([b.binds,[x]].flatten).length=b.binds.length+1:=by simp only[List.flatten_cons,List.flatten_nil,List.length_append,List.length_nil,List.length_cons,Nat.add_zero,Nat.zero_add]
 refine kE [7] 1 ?_;refine vT 8 rfl (sO G_ ?_);refine vD<|kB 9 [] λ_=>?_;subst e54;exact qr2
theorem Lk_ (b:Ap_) (Bb_:Bs) (key:Bs) (h:List Pair) (hb:b.binds.length<=1000:=by first|omega|(simp;omega)|decide +kernel) (hk:key.length<4294967281:=by first|omega|(simp;omega)|decide +kernel) (hr:∀ y∈b.binds,y.key.length<4294967281:=by first|assumption|decide +kernel):Fn prog gb 172 [.agg (Ap_.pc b), .str Bb_, .str key, .sl Pair.pc h] (.tup [.sl strc ((Cn_ b Bb_ key h).1), .sl strc ((Cn_ b Bb_ key h).2.1), .int .i64 ((Cn_ b Bb_ key h).2.2)]):=by
 refine kG func172 ntmps172 λw N H hG=>?_;have e0:=Cn_.eq_1 b Bb_ key h;generalize Cn_ b Bb_ key h=z at e0 ⊢;refine kB 13 [0] λB2=>?_;refine call (Po_ _ _) rfl rfl λw3=>kB 17 [1] λB5=>?_;refine cE e0 (λh6 e8=>?_) (λh6 e10=>?_)
 . have h7:=E7_ h6;refine kA 11 ?_;subst e8;exact rt3 rfl rfl (Ga_ (A_ Ar_ (A_ Ar_ (A_ (ple rfl) A9_))))
 have h9:=Eu_ h6;refine kA 8 ?_;refine cD e10 (λp12 e13=>?_) (λp15 e16=>?_)
 . refine kA 1 ?_;refine aN [2,3,4,5,6,7] 6 mixd<|kE [0,1,3] 3 ?_;refine vE 2 rfl (bsl 2 strc [((Eo_ b.Ba_ Bb_).getD W_.zero).to'] G_ rfl rfl rfl rfl rfl (λ_=>rfl) rfl (by decide) (by decide) rfl λu14=>?_);refine kE [4,5] 0 ?_;refine vD<|kA 1 ?_;refine givec 2 rfl<|kA 4 ?_;subst e13;exact rt3 rfl rfl (Ga_ (A_ Ar_ (A_ (ple rfl) (A_ (ple rfl) A9_))))
 refine kA 22 ?_;refine sw_own (t:=13) (k:=1) (e:=9) 2 strc rfl rfl ?_;refine sw_own (t:=14) (k:=1) (e:=9) 3 strc rfl rfl ?_;refine loop (ι:=Nat×(List Bs)×(List Bs)×Value×Value) [1,2,3,8,9,10,11,34,35] [0,1] (λ⟨k,queues,places,u_queues,u_places⟩=>[(36, .int .i64 (k:Int)),(13, .osl 2),(14, .osl 3)]) (λ⟨k,queues,places,u_queues,u_places⟩=>[(2, .arr u_queues 1 9 strc queues),(3, .arr u_places 1 9 strc places)]) (λ⟨k,queues,places,u_queues,u_places⟩=>k<=b.binds.length/\z=Br_ b Bb_ key h (b.binds.drop k) queues places/\queues.length<=k/\places.length<=k) (λ⟨k,queues,places,u_queues,u_places⟩=>b.binds.length-k) ⟨0,[],[],(.slice none 0 0),(.slice none 0 0)⟩ ⟨rfl,rfl,rfl,trivial⟩ ⟨rfl,rfl,trivial⟩ ?_ ?_
 . exact⟨Nat.zero_le _,e16,(by first|omega|(simp;done)|(simp;omega))⟩
 rintro⟨k,queues,places,u_queues,u_places⟩ ⟨hp17_1,hp17_2,hp17_3⟩;refine kA 6 ?_;refine cn rfl (λp19=>?_) λp52=>?_
 . have e20:=C5_ (f:=λzz=>Br_ b Bb_ key h zz queues places) hp17_2 (Gs_ (by omega)) (Br_.eq_2 _ _ _ _ _ _ _ _);have hc21:=getG (xs:=b.binds) (k:=k) (by omega);have hr_hc21:=hr (gt b.binds k) (List.mem_of_getElem? hc21);refine kA 6 ?_;refine kI k hc21 λw22=>?_;refine kB 7 [4] λB24=>?_;obtain⟨o,e_o,q_o⟩:=Hl_ e20;refine Ii_ (ι:=Bool) [1,2,3,8,9,10,11,13,14,16,34,35,36] [0,1,2,3,4] (λv=>[(44, .bool v)]) (λv=>[]) (λv=>o=v) ?_ ?_
   . refine kA 9 ?_;refine cN e_o (λp27 e28=>?_) (λp30 e31=>?_)
     . refine kA 1 ?_;refine nX (!decide (((gt b.binds k).Bb_)=Bb_)) ?_ ⟨rfl,trivial⟩ trivial;exact e28
     refine kA 4 ?_;refine call (Pn_ _ _) rfl rfl λw32=>kA 2 ?_;refine call (T6_ _ _ _ (hrk:=by simp only[Ji_];omega)) rfl rfl λw33=>?_;refine kA 3 ?_;refine nX (!(Qs_ (Ji_ (gt b.binds k) (((Eo_ b.Ba_ Bb_).getD W_.zero).sort)) key h)) ?_ ⟨rfl,trivial⟩ trivial;exact e31
   rintro v hp34;have e35:=J1_ q_o hp34;refine kA 1 ?_;refine cE e35 (λh36 e37=>?_) (λh36 e38=>?_)
   . refine kC 8 ?_;refine next ⟨(k+1),queues,places,(u_queues),(u_places)⟩ rfl rfl ⟨rfl,rfl,rfl,trivial⟩ ⟨rfl,rfl,trivial⟩ ?_ ?_
     . (try simp only[]);omega
     exact⟨by (try simp only[]);omega,e37,⟨by (try simp only[]);omega,by (try simp only[]);omega⟩⟩
   refine kA 7 ?_;refine cE e38 (λh39 e40=>?_) (λh39 e46=>?_)
   . refine kA 4 ?_;refine ef (ecallw (Rh_ _ _) rfl rfl rfl rfl rfl rfl ?_);generalize hr43:H1_ places ((gt b.binds k).to')=r;intro u41 w42;have e44:=e40.trans (C3_ hr43.symm);have hr43:=hr43.symm;have hA44:=put_len places ((gt b.binds k).to')
     (try rw[<- hr43] at hA44)
     refine kC 9 ?_;refine lj_osl (t:=14) 3 rfl rfl ?_;refine next ⟨(k+1),queues,r,(u_queues),(u41)⟩ rfl rfl ⟨rfl,rfl,rfl,trivial⟩ ⟨rfl,rfl,trivial⟩ ?_ ?_
     . (try simp only[]);omega
     exact⟨by (try simp only[]);omega,e44,⟨by (try simp only[]);omega,by (try simp only[]);omega⟩⟩
   refine kA 4 ?_;refine ef (ecallw (Rh_ _ _) rfl rfl rfl rfl rfl rfl ?_);generalize hr49:H1_ queues ((gt b.binds k).to')=r1;intro u47 w48;have e50:=e46.trans (C3_ hr49.symm);have hr49:=hr49.symm;have hA50:=put_len queues ((gt b.binds k).to')
   (try rw[<- hr49] at hA50)
   refine kC 9 ?_;refine lj_osl (t:=13) 2 rfl rfl ?_;refine next ⟨(k+1),r1,places,(u47),(u_places)⟩ rfl rfl ⟨rfl,rfl,rfl,trivial⟩ ⟨rfl,rfl,trivial⟩ ?_ ?_
   . (try simp only[]);omega
   exact⟨by (try simp only[]);omega,e50,⟨by (try simp only[]);omega,by (try simp only[]);omega⟩⟩
 have e53:=C5_ (f:=λzz=>Br_ b Bb_ key h zz queues places) hp17_2 (Gy_ (by omega)) (Br_.eq_1 _ _ _ _ _ _);refine kA 14 ?_;refine givec 2 rfl<|givec 3 rfl ?_;refine kA 2 ?_;subst e53;exact qr3
theorem Yu_ (l:List L_):Fn prog gb 7 [.sl L_.pc l] (.bool (Lb_ l)):=by
 refine kG func7 ntmps7 λw N H hG=>?_;have l_l:l.length<=140737488355328:=w.1.1;have e0:=Lb_.eq_1 l;generalize Lb_ l=z at e0 ⊢;refine kA 14 ?_;refine loop (ι:=Nat) [0,5,6] [] (λk=>[(7, .int .i64 (k:Int))]) (λk=>[]) (λk=>k<=l.length/\z=Fd_ l (l.drop k)) (λk=>l.length-k) 0 ⟨rfl,trivial⟩ trivial ?_ ?_
 . exact⟨Nat.zero_le _,e0⟩
 rintro k ⟨hp1_1,hp1_2⟩;refine kA 6 ?_;refine cn rfl (λp3=>?_) λp15=>?_
 . have e4:=C5_ (f:=λzz=>Fd_ l zz) hp1_2 (Gs_ (by omega)) (Fd_.eq_2 _ _ _);have hc5:=getG (xs:=l) (k:=k) (by omega);refine kA 6 ?_;refine kI k hc5 λw6=>?_;refine kB 8 [0] λB8=>?_;refine call (l22_Light _) rfl rfl λw9=>?_;have hld9:=U7_ (gt l k);refine kA 3 ?_;refine cE e4 (λh10 e12=>?_) (λh10 e14=>?_)
   . have h11:=E7_ h10;refine kA 11 ?_;subst e12;exact qr1
   have h13:=Eu_ h10;refine kC 7 ?_;refine next (k+1) rfl rfl ⟨rfl,trivial⟩ trivial ?_ ?_
   . (try simp only[]);omega
   exact⟨by (try simp only[]);omega,e14⟩
 have e16:=C5_ (f:=λzz=>Fd_ l zz) hp1_2 (Gy_ (by omega)) (Fd_.eq_1 _);refine kA 14 ?_;subst e16;exact qr1
theorem l14_awake:Fn prog gb 293 [] (.bool true):=by
 refine kG func293 ntmps293 λw N H hG=>?_;refine kA 9 ?_;refine call (L2_ (⟨[],[]⟩:Ap_) (⟨[97],1,[]⟩:W_)) rfl rfl λw1=>kB 12 [0] λB3=>?_;refine call (Jr_ _ (⟨[97],[113],false,[],[],false⟩:P_)) rfl rfl λw4=>kB 10 [] λ_=>?_;refine call (Jr_ _ (⟨[97],[113],false,[120],[],false⟩:P_)) rfl rfl λw6=>kB 10 [] λ_=>?_;refine call (Fn.le (Lk_ _ _ _ []) (A_ (ple rfl) (A_ (ple rfl) (A_ (ple rfl) (A_ Ar_ A9_)))) (ple rfl) rfl) rfl rfl λw8=>kA 11 ?_;refine call Ns_ rfl rfl λw9=>kA 1 ?_;refine ungd rfl rfl<|call l10_Awake rfl rfl λw10=>kA 2 ?_;refine ungd rfl rfl<|kA 1 ?_;refine ungd rfl rfl<|kA 1 ?_;refine so_rt (t:=37) (p':= .bool true) (ple (congrArg PV.bool (show decide (((A4_ ((A4_ ((Bz_ (⟨[],[]⟩:Ap_) (⟨[97],1,[]⟩:W_)).1) (⟨[97],[113],false,[],[],false⟩:P_)).1) (⟨[97],[113],false,[120],[],false⟩:P_)).2)=0)=true by decide +kernel))) rfl ?_;refine kA 2 ?_;refine ungd rfl rfl<|kA 1 ?_;refine ungd rfl rfl<|kA 1 ?_;refine so_rt (t:=41) (p':= .bool true) (ple (congrArg PV.bool (show decide (((Cn_ ((A4_ ((A4_ ((Bz_ (⟨[],[]⟩:Ap_) (⟨[97],1,[]⟩:W_)).1) (⟨[97],[113],false,[],[],false⟩:P_)).1) (⟨[97],[113],false,[120],[],false⟩:P_)).1) [97] [] []).2.2)=0)=true by decide +kernel))) rfl ?_;refine kA 2 ?_;refine ungd rfl rfl<|kA 1 ?_;refine ungd rfl rfl<|ef (bsl 1 strc [[113]] G_ rfl rfl rfl rfl rfl (λ_=>rfl) rfl (by decide) (by decide) rfl λu11=>?_);refine ungd rfl rfl<|ef (calll 1 rfl (eq_Str _ _) rfl rfl rfl λw12=>?_);refine so_rt (t:=46) (p':= .bool true) (ple (congrArg PV.bool (show decide (((Cn_ ((A4_ ((A4_ ((Bz_ (⟨[],[]⟩:Ap_) (⟨[97],1,[]⟩:W_)).1) (⟨[97],[113],false,[],[],false⟩:P_)).1) (⟨[97],[113],false,[120],[],false⟩:P_)).1) [97] [] []).1)=[[113]])=true by decide +kernel))) rfl ?_;refine kA 2 ?_;refine ungd rfl rfl<|kA 1 ?_;refine ungd rfl rfl<|kA 1 ?_;refine ungd rfl rfl<|kA 1 ?_;refine so_rt (t:=51) (p':= .bool true) (ple (congrArg PV.bool (show decide ((((Cn_ ((A4_ ((A4_ ((Bz_ (⟨[],[]⟩:Ap_) (⟨[97],1,[]⟩:W_)).1) (⟨[97],[113],false,[],[],false⟩:P_)).1) (⟨[97],[113],false,[120],[],false⟩:P_)).1) [97] [] []).2.1).length:Int)=0)=true by decide +kernel))) rfl ?_;refine kA 5 ?_;refine rt1 rfl rfl (ple ?_);exact congrArg PV.bool (by first|rfl|decide +kernel)
theorem l14_Awake:Fn prog gb 264 [] (.bool true):=by
 refine kG func264 ntmps264 λw N H hG=>?_;refine kA 7 ?_;refine call l14_awake rfl rfl λw1=>kA 4 ?_;refine rt1 rfl rfl (ple ?_)
 rfl
theorem l22_awake:Fn prog gb 220 [] (.bool true):=by
 refine kG func220 ntmps220 λw N H hG=>?_;refine kA 8 ?_;refine call (deed_Bytes (⟨11,1,(⟨[],0,[]⟩:W_),(⟨[],0,0,[]⟩:Q_),(⟨[],[],false,[],[],false⟩:P_),[],0,0,0,0,0,(⟨0,[],[],[],[],0,0⟩:Mail),[]⟩:L_)) rfl rfl λw1=>?_;have :=V2_ (d:=(⟨11,1,(⟨[],0,[]⟩:W_),(⟨[],0,0,[]⟩:Q_),(⟨[],[],false,[],[],false⟩:P_),[],0,0,0,0,0,(⟨0,[],[],[],[],0,0⟩:Mail),[]⟩:L_)) (by first|omega|decide);have :=deedE_r (⟨11,1,(⟨[],0,[]⟩:W_),(⟨[],0,0,[]⟩:Q_),(⟨[],[],false,[],[],false⟩:P_),[],0,0,0,0,0,(⟨0,[],[],[],[],0,0⟩:Mail),[]⟩:L_);refine kA 9 ?_;refine call S6_ rfl rfl λw2=>kA 1 ?_;refine ungd rfl rfl<|call l14_Awake rfl rfl λw3=>kA 2 ?_;refine ungd rfl rfl<|kA 1 ?_;refine ungd rfl rfl<|kA 1 ?_;refine so_rt (t:=14) (p':= .bool true) (ple (congrArg PV.bool (show decide ((F7_ (⟨11,1,(⟨[],0,[]⟩:W_),(⟨[],0,0,[]⟩:Q_),(⟨[],[],false,[],[],false⟩:P_),[],0,0,0,0,0,(⟨0,[],[],[],[],0,0⟩:Mail),[]⟩:L_))=0)=true by decide +kernel))) rfl ?_;refine kA 2 ?_;refine ungd rfl rfl<|kA 1 ?_;refine ungd rfl rfl<|kA 1 ?_;refine ungd rfl rfl<|kA 1 ?_;refine so_rt (t:=19) (p':= .bool true) (ple (congrArg PV.bool (show decide (((Cg_ (⟨11,1,(⟨[],0,[]⟩:W_),(⟨[],0,0,[]⟩:Q_),(⟨[],[],false,[],[],false⟩:P_),[],0,0,0,0,0,(⟨0,[],[],[],[],0,0⟩:Mail),[]⟩:L_)).length:Int)=9)=true by decide +kernel))) rfl ?_;refine kA 5 ?_;refine rt1 rfl rfl (ple ?_);exact congrArg PV.bool (by first|rfl|decide +kernel)
theorem l22_Awake:Fn prog gb 158 [] (.bool true):=by
 refine kG func158 ntmps158 λw N H hG=>?_;refine kA 7 ?_;refine call l22_awake rfl rfl λw1=>kA 4 ?_;refine rt1 rfl rfl (ple ?_)
 rfl
abbrev R1_:Mail->PV:=λr=> .agg (Mail.pc r)
theorem cb186:Ad_ prog 186:=Aa_ func186 (by kernel_rfl) (by kernel_rfl)
theorem cb189:Ad_ prog 189:=Aa_ func189 (by kernel_rfl) (by kernel_rfl)
theorem cb227:Ad_ prog 227:=Aa_ func227 (by kernel_rfl) (by kernel_rfl)
theorem cb243:Ad_ prog 243:=Aa_ func243 (by kernel_rfl) (by kernel_rfl)
theorem cb276:Ad_ prog 276:=Aa_ func276 (by kernel_rfl) (by kernel_rfl)
theorem cb295:Ad_ prog 295:=Aa_ func295 (by kernel_rfl) (by kernel_rfl)
theorem H0_ (n:Int) (least:Int) (most:Int):Fn prog gb 242 [.int .i64 n, .int .i64 least, .int .i64 most] (.bool (D8_ n least most)):=by
 refine kG func242 ntmps242 λw N H hG=>?_;have e0:=D8_.eq_1 n least most;refine kC 19 ?_;exact rt1 rfl rfl (Am_ (λr:Bool=> .bool r) e0 (ple rfl))
theorem Hw_ (a:Cq_) (b:Cq_):Fn prog gb 183 [.agg (Cq_.pc a), .agg (Cq_.pc b)] (.bool (Hr_ a b)):=by
 refine kG func183 ntmps183 λw N H hG=>?_;have e0:=Hr_.eq_1 a b;have :=wr_u32 ((BitVec.ofInt (IntKind.bits .u32) a.Z7_ &&& ~~~ BitVec.ofInt (IntKind.bits .u32) b.Z7_).toNat);refine kD 26 [0,1] λB2=>?_;exact rt1 rfl rfl (Am_ (λr:Bool=> .bool r) e0 (ple rfl))
theorem Fj_ (p:C_) (i:Int):Fn prog gb 182 [.agg (C_.pc p), .int .i64 i] (.bool (B1_ p i)):=by
 refine kG func182 ntmps182 λw N H hG=>?_;have p_places_l:p.places.length<=140737488355328:=w.1.2.2.1.1;have p_slots_l:p.slots.length<=140737488355328:=w.1.2.2.2.1.1;have p_grants_l:p.grants.length<=140737488355328:=w.1.2.2.2.2.1.1;have i_r:-9223372036854775808<=i/\i<=9223372036854775807:=w.2.1;have e0:=B1_.eq_1 p i;refine kD 13 [0] λB2=>?_;refine call (H0_ _ _ _) rfl rfl λw3=>kA 4 ?_;exact rt1 rfl rfl (Am_ (λr:Bool=> .bool r) e0 (ple rfl))
theorem Tx_ (x:A3_) (x1:Bs):Fn prog gb 191 [.agg (A3_.pc x), .el [.str x1] 0] (.bool (Kf_ x x1)):=by
 refine kG func191 ntmps191 λw N H hG=>?_;have e0:=Kf_.eq_1 x x1;refine kB 16 [0] λB2=>?_;exact rt1 rfl rfl (Am_ (λr:Bool=> .bool r) e0 (ple rfl))
theorem Rm_ (x:B0_) (x1:Int) (x2:Int):Fn prog gb 185 [.agg (B0_.pc x), .el [.int .i64 x1] 0, .el [.int .i64 x2] 0] (.bool (Io_ x x1 x2)):=by
 refine kG func185 ntmps185 λw N H hG=>?_;have e0:=Io_.eq_1 x x1 x2;refine kD 22 [0] λB2=>?_;exact rt1 rfl rfl (Am_ (λr:Bool=> .bool r) e0 (ple rfl))
theorem Kt_ (n:B7_):Fn prog gb 77 [.agg (B7_.pc n)] (.int .u64 (In_ n)):=by
 refine kG func77 ntmps77 λw N H hG=>?_;have e0:=In_.eq_1 n;refine kB 14 [0] λB2=>?_;exact rt1 rfl rfl (Am_ (λr:Int=> .int .u64 r) e0 (ple rfl))
theorem Um_ (p:C_) (tick:Int) (hs:0<p.slots.length:=by omega):Fn prog gb 232 [.agg (C_.pc p), .int .u64 tick] (.int .u64 (Lm_ p tick)):=by
 refine kG func232 ntmps232 λw N H hG=>?_;have p_places_l:p.places.length<=140737488355328:=w.1.2.2.1.1;have p_slots_l:p.slots.length<=140737488355328:=w.1.2.2.2.1.1;have p_grants_l:p.grants.length<=140737488355328:=w.1.2.2.2.2.1.1;have tick_r:0<=tick/\tick<=18446744073709551615:=w.2.1;have e0:=Lm_.eq_1 p tick;refine kB 12 [0] λB2=>?_;refine q1 (qconv G_ rfl rfl rfl rfl (Lj_ (by omega))) rfl λw3=>kC 5 ?_;exact rt1 rfl rfl (Am_ (λr:Int=> .int .u64 r) e0 (ple rfl))
theorem G3_ (m:Mail) (hh:m.head.length<=1000000:=by first|omega|(simp;omega)|decide +kernel):Fn prog gb 100 [.agg (Mail.pc m)] (.agg (Mail.pc (J_ m))):=by
 refine kG func100 ntmps100 λw N H hG=>?_;have e0:=J_.eq_1 m;refine kB 10 [0,1] λB2=>?_;refine call (Uv_ _) rfl rfl λw4=>kB 11 [] λ_=>?_;exact rt1 rfl rfl (Am_ (λr:Mail=> .agg (Mail.pc r)) e0 (ple rfl))
theorem Lu_ (m:Mail):Fn prog gb 216 [.agg (Mail.pc m)] (.int .i64 (Ex_ m)):=by
 refine kG func216 ntmps216 λw N H hG=>?_;have e0:=Ex_.eq_1 m;refine kB 9 [0] λB2=>?_;refine call (Mn_ _) rfl rfl λw3=>?_;have :=F8_ m;refine kA 15 ?_;exact rt1 rfl rfl (Am_ (λr:Int=> .int .i64 r) e0 (ple rfl))
theorem Ia_ (x:M_) (hh:x.Ab_.head.length<=1000000:=by omega):Fn prog gb 205 [.agg (M_.pc x)] (.agg (M_.pc (B6_ x))):=by
 refine kG func205 ntmps205 λw N H hG=>?_;have e0:=B6_.eq_1 x;refine kB 10 [0,1] λB2=>?_;refine cV e0 R1_ (G3_ _) rfl λr hr4 e6 w5=>kB 11 [] λ_=>?_;exact rt1 rfl rfl (Am_ (λr:M_=> .agg (M_.pc r)) e6 (ple rfl))
theorem line_all_ok (x0:Mail):Fn prog gb 235 [.agg (Mail.pc x0)] (.bool (W3_ x0)):=by
 refine kG func235 ntmps235 λw N H hG=>?_;have e0:=W3_.eq_1 x0;refine kB 12 [0] λB2=>?_;exact rt1 rfl rfl (Am_ (λr:Bool=> .bool r) e0 (ple rfl))
theorem line_of1_ok (x:M_) (x1:Int):Fn prog gb 275 [.agg (M_.pc x), .el [.int .u64 x1] 0] (.bool (M4_ x x1)):=by
 refine kG func275 ntmps275 λw N H hG=>?_;have e0:=M4_.eq_1 x x1;refine kB 17 [0] λB2=>?_;exact rt1 rfl rfl (Am_ (λr:Bool=> .bool r) e0 (ple rfl))
theorem Hx_ (l:Ae_):Fn prog gb 127 [.agg (Ae_.pc l)] (.int .i64 (A8_ l)):=by
 refine kG func127 ntmps127 λw N H hG=>?_;have e0:=A8_.eq_1 l;refine kB 15 [0] λB2=>?_;exact rt1 rfl rfl (Am_ (λr:Int=> .int .i64 r) e0 (ple rfl))
theorem W2_ (m:Mail) (x1:Int):Fn prog gb 241 [.agg (Mail.pc m), .el [.int .u64 x1] 0] (.bool (Qw_ m x1)):=by
 refine kG func241 ntmps241 λw N H hG=>?_;have e0:=Qw_.eq_1 m x1;refine kD 21 [0] λB2=>?_;exact rt1 rfl rfl (Am_ (λr:Bool=> .bool r) e0 (ple rfl))
theorem P5_ (x:M_):Fn prog gb 274 [.agg (M_.pc x), .el [.fn 235 [] []] 0] (.bool (Ik_ x)):=by
 refine kG func274 ntmps274 λw N H hG=>?_;have e0:=Ik_.eq_1 x;refine kD 15 [0] λB2=>?_;refine callgF rfl (λhc=>(line_all_ok _)) rfl ⟨(λhc=>hc),(λhc=>hc),trivial⟩ rfl rfl λ_=>?_;refine kC 5 ?_;exact rt1 rfl rfl (Am_ (λr:Bool=> .bool r) e0 (ple rfl))
theorem O8_ (x:M_) (x1:Int):Fn prog gb 274 [.agg (M_.pc x), .el [.fn 241 [] [.el [.int .u64 x1] 0]] 0] (.bool (Hy_ x x1)):=by
 refine kG func274 ntmps274 λw N H hG=>?_;have e0:=Hy_.eq_1 x x1;refine kD 15 [0] λB2=>?_;refine callgF rfl (λhc=>(W2_ _ _)) rfl ⟨(λhc=>hc),(λhc=>hc),trivial⟩ rfl rfl λ_=>?_;refine kC 5 ?_;exact rt1 rfl rfl (Am_ (λr:Bool=> .bool r) e0 (ple rfl))
theorem U2_ (s:List A3_) (f:FuncId) (f_fst f_cap:List PV) (f_p:A3_->Bool) (f_h:∀ x,Fn prog gb f (argsP.apL f_fst ((.agg (A3_.pc x))::f_cap)) (.bool (f_p x))):Fn prog gb 190 [.sl A3_.pc s, .fn f f_fst f_cap] (.int .i64 (idxP f_p s)):=by
 refine kG func190 ntmps190 λw N H hG=>?_;have s_l:s.length<=140737488355328:=w.1.1;refine kA 14 ?_;refine loop (ι:=Nat) [0,1,6,7] [] (λk=>[(8, .int .i64 (k:Int))]) (λk=>[]) (λk=>k<=s.length/\idxP f_p s=idxF f_p k (s.drop k)) (λk=>s.length-k) 0 ⟨rfl,trivial⟩ trivial ?_ ?_
 . exact⟨Nat.zero_le _,rfl⟩
 rintro k hp1;obtain⟨hk1,hk2⟩:=hp1;refine kA 6 ?_;refine cnd rfl (λh2=>?_) (λh2=>?_)
 . have p3:=dt h2;obtain⟨c4,hc5⟩:=getE (xs:=s) (m:=k) (by omega);refine kA 15 ?_;refine kI k hc5 λw6=>?_;refine kA 1 ?_;refine call (f_h c4) rfl rfl λw7=>kA 2 ?_;refine cnd rfl (λh8=>?_) (λh8=>?_)
   . refine kA 12 ?_;refine rt1 rfl rfl (ple ?_);exact congrArg (PV.int .i64) (Mz_ hk2 (E3_ hc5) (by assumption)).symm
   refine kC 7 ?_;refine next (k+1) rfl rfl ⟨rfl,trivial⟩ trivial ?_ ?_
   . omega
   exact⟨by omega,Kw_ hk2 (E3_ hc5) (by assumption)⟩
 have p9:=df h2;refine kA 11 ?_;refine rt1 rfl rfl (ple ?_);exact congrArg (PV.int .i64) (My_ hk2 (by omega)).symm
theorem cF_Place (s:List A3_) (f:FuncId) (f_fst f_cap:List PV) (f_p:A3_->Bool) (f_h:∀ x,Fn prog gb f (argsP.apL f_fst ((.agg (A3_.pc x))::f_cap)) (.bool (f_p x))):Fn prog gb 330 [.sl A3_.pc s, .fn f f_fst f_cap] (.bool (decide (0<=idxP f_p s))):=by
 refine kG func330 ntmps330 λw N H hG=>?_;refine kA 9 ?_;refine call (U2_ _ f f_fst f_cap f_p f_h) rfl rfl λw1=>?_;have hix1:=H8_ f_p s;refine kA 5 ?_;refine rt1 rfl rfl (ple ?_)
 rfl
theorem U1_ (s:List B0_) (f:FuncId) (f_fst f_cap:List PV) (f_p:B0_->Bool) (f_h:∀ x,Fn prog gb f (argsP.apL f_fst ((.agg (B0_.pc x))::f_cap)) (.bool (f_p x))):Fn prog gb 184 [.sl B0_.pc s, .fn f f_fst f_cap] (.int .i64 (idxP f_p s)):=by
 refine kG func184 ntmps184 λw N H hG=>?_;have s_l:s.length<=140737488355328:=w.1.1;refine kA 14 ?_;refine loop (ι:=Nat) [0,1,6,7] [] (λk=>[(8, .int .i64 (k:Int))]) (λk=>[]) (λk=>k<=s.length/\idxP f_p s=idxF f_p k (s.drop k)) (λk=>s.length-k) 0 ⟨rfl,trivial⟩ trivial ?_ ?_
 . exact⟨Nat.zero_le _,rfl⟩
 rintro k hp1;obtain⟨hk1,hk2⟩:=hp1;refine kA 6 ?_;refine cnd rfl (λh2=>?_) (λh2=>?_)
 . have p3:=dt h2;obtain⟨c4,hc5⟩:=getE (xs:=s) (m:=k) (by omega);refine kA 15 ?_;refine kI k hc5 λw6=>?_;refine kA 1 ?_;refine call (f_h c4) rfl rfl λw7=>kA 2 ?_;refine cnd rfl (λh8=>?_) (λh8=>?_)
   . refine kA 12 ?_;refine rt1 rfl rfl (ple ?_);exact congrArg (PV.int .i64) (Mz_ hk2 (E3_ hc5) (by assumption)).symm
   refine kC 7 ?_;refine next (k+1) rfl rfl ⟨rfl,trivial⟩ trivial ?_ ?_
   . omega
   exact⟨by omega,Kw_ hk2 (E3_ hc5) (by assumption)⟩
 have p9:=df h2;refine kA 11 ?_;refine rt1 rfl rfl (ple ?_);exact congrArg (PV.int .i64) (My_ hk2 (by omega)).symm
theorem cF_Grant (s:List B0_) (f:FuncId) (f_fst f_cap:List PV) (f_p:B0_->Bool) (f_h:∀ x,Fn prog gb f (argsP.apL f_fst ((.agg (B0_.pc x))::f_cap)) (.bool (f_p x))):Fn prog gb 332 [.sl B0_.pc s, .fn f f_fst f_cap] (.bool (decide (0<=idxP f_p s))):=by
 refine kG func332 ntmps332 λw N H hG=>?_;refine kA 9 ?_;refine call (U1_ _ f f_fst f_cap f_p f_h) rfl rfl λw1=>?_;have hix1:=H8_ f_p s;refine kA 5 ?_;refine rt1 rfl rfl (ple ?_)
 rfl
theorem grow_Note (n:Int) (hn:0<=n/\n<=100000000:=by omega):Fo prog gb 189 [.val (.slice none 0 0), .int .i64 n] (λu=> .val u) 3 120 D5_.pc ([]:List D5_):=by
 refine Wf_ G_ func189 rfl ntmps189 rfl cb189 (λ_=>rfl) rfl λw N H hG=>?_;refine kA 12 ?_;refine cnd rfl (λh1=>?_) (λh1=>?_)
 . have p2:=dt h1
   exfalso;omega
 have p3:=df h1;refine kA 7 ?_;refine q1 (qcap0 G_ rfl rfl rfl) rfl λw4=>kA 1 ?_;refine q1 (qlen0 G_ rfl rfl rfl) rfl λw5=>kC 11 ?_;refine cn rfl (λp7=>?_) λp13=>?_
 . refine kA 3 ?_;refine q1 (qcap0 G_ rfl rfl rfl) rfl λw8=>q1 (qcut0 G_ rfl rfl rfl rfl rfl (by omega)) rfl λw9=>kA 1 ?_;refine ef (appz (m:=((n-(0-0))).toNat) 0 G_ rfl rfl rfl rfl rfl rfl rfl rfl rfl rfl (by omega) (by omega) (by (try simp only[]);omega) rfl rfl λu10=>?_);refine kA 1 ?_;refine q1 (qlen0 G_ rfl rfl rfl) rfl λw11=>ef (ocut D5_.pc G_ rfl rfl rfl rfl rfl rfl (by omega) rfl λu12=>?_);refine kA 9 ?_;refine sw_val (t:=4) (i:=0) rfl rfl<|kA 1 ?_;refine ro1 (j:=0) rfl rfl rfl ?_
   rfl
 refine kA 8 ?_;refine sw_own (t:=4) (k:=3) (e:=120) 0 D5_.pc rfl rfl ?_;refine sw_val (t:=4) (i:=0) rfl rfl<|kA 1 ?_;refine ro1 (j:=0) rfl rfl rfl ?_
 rfl
theorem concat_Note (ls:List (List D5_)) (hl:ls.flatten.length<=100000000:=by first|omega|(simp;done)|(simp;omega)|(simp only[List.flatten_cons,List.flatten_nil,List.length_append,List.append_nil];simp;omega)):Fn prog gb 111 [.sl (slc D5_.pc) ls] (.sl D5_.pc ls.flatten):=by
 refine kG func111 ntmps111 λw N H hG=>?_;have ls_l:ls.length<=140737488355328:=w.1.1;refine kA 19 ?_;refine loop (ι:=Nat×Int) [0,2,9,10] [] (λ⟨k,n⟩=>[(3, .int .i64 n),(11, .int .i64 (k:Int))]) (λ⟨k,n⟩=>[]) (λ⟨k,n⟩=>k<=ls.length/\n=((ls.take k).flatten.length:Int)) (λ⟨k,n⟩=>ls.length-k) ⟨0,0⟩ ⟨rfl,rfl,trivial⟩ trivial ?_ ?_
 . exact⟨Nat.zero_le _,by simp⟩
 rintro⟨k,n⟩ hp1;obtain⟨hk1,hk2⟩:=hp1;have hg0:=D9_ ls k;refine kA 6 ?_;refine cn rfl (λp3=>?_) λp10=>?_
 . obtain⟨c4,hc5⟩:=getE (xs:=ls) (m:=k) (by omega);refine kA 6 ?_;refine kI k hc5 λw6=>?_;refine go G_ 19 rfl rfl ⟨(by have hg:=D9_ ls (k+1);have hfl:=congrArg List.length (B3_ (by assumption :ls[k]? = some _));simp only[List.length_append] at hfl;omega),trivial⟩ ?_;refine cnd rfl (λh7=>?_) (λh7=>?_)
   . have p8:=dt h7
     exfalso;omega
   have p9:=df h7;refine go G_ 7 rfl rfl ⟨(by have hg:=D9_ ls (k+1);have hfl:=congrArg List.length (B3_ (by assumption :ls[k]? = some _));simp only[List.length_append] at hfl;omega),trivial⟩ ?_;refine next ⟨(k+1),(n+(c4.length:Int))⟩ rfl rfl ⟨rfl,rfl,trivial⟩ trivial ?_ ?_
   . (try simp only[]);omega
   have hf:=B3_ hc5;have hg:=D9_ ls (k+1);have hfl:=congrArg List.length hf
   simp only[List.length_append] at hfl
   exact⟨by omega,by (try simp only[]);omega⟩
 refine kA 8 ?_;refine ef (ecallo 0 (grow_Note _) rfl rfl λu12 w11=>?_);refine kA 12 ?_;refine sw_osl (t:=6) 0 rfl rfl ?_;refine loop (ι:=Nat×(List D5_)×Value) [0,2,3,9,10,11,12,23,24,25,26] [] (λ⟨k,out,u_out⟩=>[(6, .osl 0),(27, .int .i64 (k:Int))]) (λ⟨k,out,u_out⟩=>[(0, .arr u_out 3 120 D5_.pc out)]) (λ⟨k,out,u_out⟩=>k<=ls.length/\out=(ls.take k).flatten) (λ⟨k,out,u_out⟩=>ls.length-k) ⟨0,([]:List D5_),(u12)⟩ ⟨rfl,rfl,trivial⟩ ⟨rfl,trivial⟩ ?_ ?_
 . exact⟨Nat.zero_le _,by simp⟩
 rintro⟨k,out,u_out⟩ hp13;obtain⟨hk1,hk2⟩:=hp13;refine kA 6 ?_;refine cn rfl (λp15=>?_) λp20=>?_
 . obtain⟨c16,hc17⟩:=getE (xs:=ls) (m:=k) (by omega);refine kA 6 ?_;refine kI k hc17 λw18=>?_;refine kA 7 ?_;refine ef (app G_ c16 rfl rfl rfl rfl rfl rfl rfl rfl rfl (src_l rfl (λ_=>rfl)) (by have hg:=D9_ ls (k+1);have hfl:=congrArg List.length (B3_ (by assumption :ls[k]? = some _));simp only[List.length_append] at hfl;subst hk2;(try simp only[]);omega) rfl λu19=>?_);refine go G_ 8 rfl rfl ⟨(by have hg:=D9_ ls (k+1);have hfl:=congrArg List.length (B3_ (by assumption :ls[k]? = some _));simp only[List.length_append] at hfl;omega),trivial⟩ ?_;refine next ⟨(k+1),(out++c16),(u19)⟩ rfl rfl ⟨rfl,rfl,trivial⟩ ⟨rfl,trivial⟩ ?_ ?_
   . (try simp only[]);omega
   exact⟨by omega,by (try simp only[]);rw[B3_ hc17,hk2]⟩
 refine kA 11 ?_;refine givec 0 rfl<|kA 1 ?_;refine rt1 rfl rfl (ple ?_)
 rw[hk2,Me_ (by omega)]
theorem grow_Item (n:Int) (hn:0<=n/\n<=100000000:=by omega):Fo prog gb 276 [.val (.slice none 0 0), .int .i64 n] (λu=> .val u) 9 68 M_.pc ([]:List M_):=by
 refine Wf_ G_ func276 rfl ntmps276 rfl cb276 (λ_=>rfl) rfl λw N H hG=>?_;refine kA 12 ?_;refine cnd rfl (λh1=>?_) (λh1=>?_)
 . have p2:=dt h1
   exfalso;omega
 have p3:=df h1;refine kA 7 ?_;refine q1 (qcap0 G_ rfl rfl rfl) rfl λw4=>kA 1 ?_;refine q1 (qlen0 G_ rfl rfl rfl) rfl λw5=>kC 11 ?_;refine cn rfl (λp7=>?_) λp13=>?_
 . refine kA 3 ?_;refine q1 (qcap0 G_ rfl rfl rfl) rfl λw8=>q1 (qcut0 G_ rfl rfl rfl rfl rfl (by omega)) rfl λw9=>kA 1 ?_;refine ef (appz (m:=((n-(0-0))).toNat) 0 G_ rfl rfl rfl rfl rfl rfl rfl rfl rfl rfl (by omega) (by omega) (by (try simp only[]);omega) rfl rfl λu10=>?_);refine kA 1 ?_;refine q1 (qlen0 G_ rfl rfl rfl) rfl λw11=>ef (ocut M_.pc G_ rfl rfl rfl rfl rfl rfl (by omega) rfl λu12=>?_);refine kA 9 ?_;refine sw_val (t:=4) (i:=0) rfl rfl<|kA 1 ?_;refine ro1 (j:=0) rfl rfl rfl ?_
   rfl
 refine kA 8 ?_;refine sw_own (t:=4) (k:=9) (e:=68) 0 M_.pc rfl rfl ?_;refine sw_val (t:=4) (i:=0) rfl rfl<|kA 1 ?_;refine ro1 (j:=0) rfl rfl rfl ?_
 rfl
theorem Sm_ (ls:List (List M_)) (hl:ls.flatten.length<=100000000:=by first|omega|(simp;done)|(simp;omega)|(simp only[List.flatten_cons,List.flatten_nil,List.length_append,List.append_nil];simp;omega)):Fn prog gb 239 [.sl (slc M_.pc) ls] (.sl M_.pc ls.flatten):=by
 refine kG func239 ntmps239 λw N H hG=>?_;have ls_l:ls.length<=140737488355328:=w.1.1;refine kA 19 ?_;refine loop (ι:=Nat×Int) [0,2,9,10] [] (λ⟨k,n⟩=>[(3, .int .i64 n),(11, .int .i64 (k:Int))]) (λ⟨k,n⟩=>[]) (λ⟨k,n⟩=>k<=ls.length/\n=((ls.take k).flatten.length:Int)) (λ⟨k,n⟩=>ls.length-k) ⟨0,0⟩ ⟨rfl,rfl,trivial⟩ trivial ?_ ?_
 . exact⟨Nat.zero_le _,by simp⟩
 rintro⟨k,n⟩ hp1;obtain⟨hk1,hk2⟩:=hp1;have hg0:=D9_ ls k;refine kA 6 ?_;refine cn rfl (λp3=>?_) λp10=>?_
 . obtain⟨c4,hc5⟩:=getE (xs:=ls) (m:=k) (by omega);refine kA 6 ?_;refine kI k hc5 λw6=>?_;refine go G_ 19 rfl rfl ⟨(by have hg:=D9_ ls (k+1);have hfl:=congrArg List.length (B3_ (by assumption :ls[k]? = some _));simp only[List.length_append] at hfl;omega),trivial⟩ ?_;refine cnd rfl (λh7=>?_) (λh7=>?_)
   . have p8:=dt h7
     exfalso;omega
   have p9:=df h7;refine go G_ 7 rfl rfl ⟨(by have hg:=D9_ ls (k+1);have hfl:=congrArg List.length (B3_ (by assumption :ls[k]? = some _));simp only[List.length_append] at hfl;omega),trivial⟩ ?_;refine next ⟨(k+1),(n+(c4.length:Int))⟩ rfl rfl ⟨rfl,rfl,trivial⟩ trivial ?_ ?_
   . (try simp only[]);omega
   have hf:=B3_ hc5;have hg:=D9_ ls (k+1);have hfl:=congrArg List.length hf
   simp only[List.length_append] at hfl
   exact⟨by omega,by (try simp only[]);omega⟩
 refine kA 8 ?_;refine ef (ecallo 0 (grow_Item _) rfl rfl λu12 w11=>?_);refine kA 12 ?_;refine sw_osl (t:=6) 0 rfl rfl ?_;refine loop (ι:=Nat×(List M_)×Value) [0,2,3,9,10,11,12,23,24,25,26] [] (λ⟨k,out,u_out⟩=>[(6, .osl 0),(27, .int .i64 (k:Int))]) (λ⟨k,out,u_out⟩=>[(0, .arr u_out 9 68 M_.pc out)]) (λ⟨k,out,u_out⟩=>k<=ls.length/\out=(ls.take k).flatten) (λ⟨k,out,u_out⟩=>ls.length-k) ⟨0,([]:List M_),(u12)⟩ ⟨rfl,rfl,trivial⟩ ⟨rfl,trivial⟩ ?_ ?_
 . exact⟨Nat.zero_le _,by simp⟩
 rintro⟨k,out,u_out⟩ hp13;obtain⟨hk1,hk2⟩:=hp13;refine kA 6 ?_;refine cn rfl (λp15=>?_) λp20=>?_
 . obtain⟨c16,hc17⟩:=getE (xs:=ls) (m:=k) (by omega);refine kA 6 ?_;refine kI k hc17 λw18=>?_;refine kA 7 ?_;refine ef (app G_ c16 rfl rfl rfl rfl rfl rfl rfl rfl rfl (src_l rfl (λ_=>rfl)) (by have hg:=D9_ ls (k+1);have hfl:=congrArg List.length (B3_ (by assumption :ls[k]? = some _));simp only[List.length_append] at hfl;subst hk2;(try simp only[]);omega) rfl λu19=>?_);refine go G_ 8 rfl rfl ⟨(by have hg:=D9_ ls (k+1);have hfl:=congrArg List.length (B3_ (by assumption :ls[k]? = some _));simp only[List.length_append] at hfl;omega),trivial⟩ ?_;refine next ⟨(k+1),(out++c16),(u19)⟩ rfl rfl ⟨rfl,rfl,trivial⟩ ⟨rfl,trivial⟩ ?_ ?_
   . (try simp only[]);omega
   exact⟨by omega,by (try simp only[]);rw[B3_ hc17,hk2]⟩
 refine kA 11 ?_;refine givec 0 rfl<|kA 1 ?_;refine rt1 rfl rfl (ple ?_)
 rw[hk2,Me_ (by omega)]
theorem Sx_ (s:List M_) (f:FuncId) (f_fst f_cap:List PV) (f_p:M_->Bool) (f_h:∀ x,Fn prog gb f (argsP.apL f_fst ((.agg (M_.pc x))::f_cap)) (.bool (f_p x))):Fn prog gb 273 [.sl M_.pc s, .fn f f_fst f_cap] (.int .i64 (idxP f_p s)):=by
 refine kG func273 ntmps273 λw N H hG=>?_;have s_l:s.length<=140737488355328:=w.1.1;refine kA 14 ?_;refine loop (ι:=Nat) [0,1,6,7] [] (λk=>[(8, .int .i64 (k:Int))]) (λk=>[]) (λk=>k<=s.length/\idxP f_p s=idxF f_p k (s.drop k)) (λk=>s.length-k) 0 ⟨rfl,trivial⟩ trivial ?_ ?_
 . exact⟨Nat.zero_le _,rfl⟩
 rintro k hp1;obtain⟨hk1,hk2⟩:=hp1;refine kA 6 ?_;refine cnd rfl (λh2=>?_) (λh2=>?_)
 . have p3:=dt h2;obtain⟨c4,hc5⟩:=getE (xs:=s) (m:=k) (by omega);refine kA 15 ?_;refine kI k hc5 λw6=>?_;refine kA 1 ?_;refine call (f_h c4) rfl rfl λw7=>kA 2 ?_;refine cnd rfl (λh8=>?_) (λh8=>?_)
   . refine kA 12 ?_;refine rt1 rfl rfl (ple ?_);exact congrArg (PV.int .i64) (Mz_ hk2 (E3_ hc5) (by assumption)).symm
   refine kC 7 ?_;refine next (k+1) rfl rfl ⟨rfl,trivial⟩ trivial ?_ ?_
   . omega
   exact⟨by omega,Kw_ hk2 (E3_ hc5) (by assumption)⟩
 have p9:=df h2;refine kA 11 ?_;refine rt1 rfl rfl (ple ?_);exact congrArg (PV.int .i64) (My_ hk2 (by omega)).symm
theorem grow_row (n:Int) (hn:0<=n/\n<=100000000:=by omega):Fo prog gb 227 [.val (.slice none 0 0), .int .i64 n] (λu=> .val u) 5 167 Gi_.pc ([]:List Gi_):=by
 refine Wf_ G_ func227 rfl ntmps227 rfl cb227 (λ_=>rfl) rfl λw N H hG=>?_;refine kA 12 ?_;refine cnd rfl (λh1=>?_) (λh1=>?_)
 . have p2:=dt h1
   exfalso;omega
 have p3:=df h1;refine kA 7 ?_;refine q1 (qcap0 G_ rfl rfl rfl) rfl λw4=>kA 1 ?_;refine q1 (qlen0 G_ rfl rfl rfl) rfl λw5=>kC 11 ?_;refine cn rfl (λp7=>?_) λp13=>?_
 . refine kA 3 ?_;refine q1 (qcap0 G_ rfl rfl rfl) rfl λw8=>q1 (qcut0 G_ rfl rfl rfl rfl rfl (by omega)) rfl λw9=>kA 1 ?_;refine ef (appz (m:=((n-(0-0))).toNat) 0 G_ rfl rfl rfl rfl rfl rfl rfl rfl rfl rfl (by omega) (by omega) (by (try simp only[]);omega) rfl rfl λu10=>?_);refine kA 1 ?_;refine q1 (qlen0 G_ rfl rfl rfl) rfl λw11=>ef (ocut Gi_.pc G_ rfl rfl rfl rfl rfl rfl (by omega) rfl λu12=>?_);refine kA 9 ?_;refine sw_val (t:=4) (i:=0) rfl rfl<|kA 1 ?_;refine ro1 (j:=0) rfl rfl rfl ?_
   rfl
 refine kA 8 ?_;refine sw_own (t:=4) (k:=5) (e:=167) 0 Gi_.pc rfl rfl ?_;refine sw_val (t:=4) (i:=0) rfl rfl<|kA 1 ?_;refine ro1 (j:=0) rfl rfl rfl ?_
 rfl
theorem Uw_ (ls:List (List Gi_)) (hl:ls.flatten.length<=100000000:=by first|omega|(simp;done)|(simp;omega)|(simp only[List.flatten_cons,List.flatten_nil,List.length_append,List.append_nil];simp;omega)):Fn prog gb 169 [.sl (slc Gi_.pc) ls] (.sl Gi_.pc ls.flatten):=by
 refine kG func169 ntmps169 λw N H hG=>?_;have ls_l:ls.length<=140737488355328:=w.1.1;refine kA 19 ?_;refine loop (ι:=Nat×Int) [0,2,9,10] [] (λ⟨k,n⟩=>[(3, .int .i64 n),(11, .int .i64 (k:Int))]) (λ⟨k,n⟩=>[]) (λ⟨k,n⟩=>k<=ls.length/\n=((ls.take k).flatten.length:Int)) (λ⟨k,n⟩=>ls.length-k) ⟨0,0⟩ ⟨rfl,rfl,trivial⟩ trivial ?_ ?_
 . exact⟨Nat.zero_le _,by simp⟩
 rintro⟨k,n⟩ hp1;obtain⟨hk1,hk2⟩:=hp1;have hg0:=D9_ ls k;refine kA 6 ?_;refine cn rfl (λp3=>?_) λp10=>?_
 . obtain⟨c4,hc5⟩:=getE (xs:=ls) (m:=k) (by omega);refine kA 6 ?_;refine kI k hc5 λw6=>?_;refine go G_ 19 rfl rfl ⟨(by have hg:=D9_ ls (k+1);have hfl:=congrArg List.length (B3_ (by assumption :ls[k]? = some _));simp only[List.length_append] at hfl;omega),trivial⟩ ?_;refine cnd rfl (λh7=>?_) (λh7=>?_)
   . have p8:=dt h7
     exfalso;omega
   have p9:=df h7;refine go G_ 7 rfl rfl ⟨(by have hg:=D9_ ls (k+1);have hfl:=congrArg List.length (B3_ (by assumption :ls[k]? = some _));simp only[List.length_append] at hfl;omega),trivial⟩ ?_;refine next ⟨(k+1),(n+(c4.length:Int))⟩ rfl rfl ⟨rfl,rfl,trivial⟩ trivial ?_ ?_
   . (try simp only[]);omega
   have hf:=B3_ hc5;have hg:=D9_ ls (k+1);have hfl:=congrArg List.length hf
   simp only[List.length_append] at hfl
   exact⟨by omega,by (try simp only[]);omega⟩
 refine kA 8 ?_;refine ef (ecallo 0 (grow_row _) rfl rfl λu12 w11=>?_);refine kA 12 ?_;refine sw_osl (t:=6) 0 rfl rfl ?_;refine loop (ι:=Nat×(List Gi_)×Value) [0,2,3,9,10,11,12,23,24,25,26] [] (λ⟨k,out,u_out⟩=>[(6, .osl 0),(27, .int .i64 (k:Int))]) (λ⟨k,out,u_out⟩=>[(0, .arr u_out 5 167 Gi_.pc out)]) (λ⟨k,out,u_out⟩=>k<=ls.length/\out=(ls.take k).flatten) (λ⟨k,out,u_out⟩=>ls.length-k) ⟨0,([]:List Gi_),(u12)⟩ ⟨rfl,rfl,trivial⟩ ⟨rfl,trivial⟩ ?_ ?_
 . exact⟨Nat.zero_le _,by simp⟩
 rintro⟨k,out,u_out⟩ hp13;obtain⟨hk1,hk2⟩:=hp13;refine kA 6 ?_;refine cn rfl (λp15=>?_) λp20=>?_
 . obtain⟨c16,hc17⟩:=getE (xs:=ls) (m:=k) (by omega);refine kA 6 ?_;refine kI k hc17 λw18=>?_;refine kA 7 ?_;refine ef (app G_ c16 rfl rfl rfl rfl rfl rfl rfl rfl rfl (src_l rfl (λ_=>rfl)) (by have hg:=D9_ ls (k+1);have hfl:=congrArg List.length (B3_ (by assumption :ls[k]? = some _));simp only[List.length_append] at hfl;subst hk2;(try simp only[]);omega) rfl λu19=>?_);refine go G_ 8 rfl rfl ⟨(by have hg:=D9_ ls (k+1);have hfl:=congrArg List.length (B3_ (by assumption :ls[k]? = some _));simp only[List.length_append] at hfl;omega),trivial⟩ ?_;refine next ⟨(k+1),(out++c16),(u19)⟩ rfl rfl ⟨rfl,rfl,trivial⟩ ⟨rfl,trivial⟩ ?_ ?_
   . (try simp only[]);omega
   exact⟨by omega,by (try simp only[]);rw[B3_ hc17,hk2]⟩
 refine kA 11 ?_;refine givec 0 rfl<|kA 1 ?_;refine rt1 rfl rfl (ple ?_)
 rw[hk2,Me_ (by omega)]
theorem idxF_row (s:List Gi_) (f:FuncId) (f_fst f_cap:List PV) (f_p:Gi_->Bool) (f_h:∀ x,Fn prog gb f (argsP.apL f_fst ((.agg (Gi_.pc x))::f_cap)) (.bool (f_p x))):Fn prog gb 225 [.sl Gi_.pc s, .fn f f_fst f_cap] (.int .i64 (idxP f_p s)):=by
 refine kG func225 ntmps225 λw N H hG=>?_;have s_l:s.length<=140737488355328:=w.1.1;refine kA 14 ?_;refine loop (ι:=Nat) [0,1,6,7] [] (λk=>[(8, .int .i64 (k:Int))]) (λk=>[]) (λk=>k<=s.length/\idxP f_p s=idxF f_p k (s.drop k)) (λk=>s.length-k) 0 ⟨rfl,trivial⟩ trivial ?_ ?_
 . exact⟨Nat.zero_le _,rfl⟩
 rintro k hp1;obtain⟨hk1,hk2⟩:=hp1;refine kA 6 ?_;refine cnd rfl (λh2=>?_) (λh2=>?_)
 . have p3:=dt h2;obtain⟨c4,hc5⟩:=getE (xs:=s) (m:=k) (by omega);refine kA 15 ?_;refine kI k hc5 λw6=>?_;refine kA 1 ?_;refine call (f_h c4) rfl rfl λw7=>kA 2 ?_;refine cnd rfl (λh8=>?_) (λh8=>?_)
   . refine kA 12 ?_;refine rt1 rfl rfl (ple ?_);exact congrArg (PV.int .i64) (Mz_ hk2 (E3_ hc5) (by assumption)).symm
   refine kC 7 ?_;refine next (k+1) rfl rfl ⟨rfl,trivial⟩ trivial ?_ ?_
   . omega
   exact⟨by omega,Kw_ hk2 (E3_ hc5) (by assumption)⟩
 have p9:=df h2;refine kA 11 ?_;refine rt1 rfl rfl (ple ?_);exact congrArg (PV.int .i64) (My_ hk2 (by omega)).symm
theorem grow_Mail (n:Int) (hn:0<=n/\n<=100000000:=by omega):Fo prog gb 295 [.val (.slice none 0 0), .int .i64 n] (λu=> .val u) 7 64 Mail.pc ([]:List Mail):=by
 refine Wf_ G_ func295 rfl ntmps295 rfl cb295 (λ_=>rfl) rfl λw N H hG=>?_;refine kA 12 ?_;refine cnd rfl (λh1=>?_) (λh1=>?_)
 . have p2:=dt h1
   exfalso;omega
 have p3:=df h1;refine kA 7 ?_;refine q1 (qcap0 G_ rfl rfl rfl) rfl λw4=>kA 1 ?_;refine q1 (qlen0 G_ rfl rfl rfl) rfl λw5=>kC 11 ?_;refine cn rfl (λp7=>?_) λp13=>?_
 . refine kA 3 ?_;refine q1 (qcap0 G_ rfl rfl rfl) rfl λw8=>q1 (qcut0 G_ rfl rfl rfl rfl rfl (by omega)) rfl λw9=>kA 1 ?_;refine ef (appz (m:=((n-(0-0))).toNat) 0 G_ rfl rfl rfl rfl rfl rfl rfl rfl rfl rfl (by omega) (by omega) (by (try simp only[]);omega) rfl rfl λu10=>?_);refine kA 1 ?_;refine q1 (qlen0 G_ rfl rfl rfl) rfl λw11=>ef (ocut Mail.pc G_ rfl rfl rfl rfl rfl rfl (by omega) rfl λu12=>?_);refine kA 9 ?_;refine sw_val (t:=4) (i:=0) rfl rfl<|kA 1 ?_;refine ro1 (j:=0) rfl rfl rfl ?_
   rfl
 refine kA 8 ?_;refine sw_own (t:=4) (k:=7) (e:=64) 0 Mail.pc rfl rfl ?_;refine sw_val (t:=4) (i:=0) rfl rfl<|kA 1 ?_;refine ro1 (j:=0) rfl rfl rfl ?_
 rfl
theorem concat_Mail (ls:List (List Mail)) (hl:ls.flatten.length<=100000000:=by first|omega|(simp;done)|(simp;omega)|(simp only[List.flatten_cons,List.flatten_nil,List.length_append,List.append_nil];simp;omega)):Fn prog gb 272 [.sl (slc Mail.pc) ls] (.sl Mail.pc ls.flatten):=by
 refine kG func272 ntmps272 λw N H hG=>?_;have ls_l:ls.length<=140737488355328:=w.1.1;refine kA 19 ?_;refine loop (ι:=Nat×Int) [0,2,9,10] [] (λ⟨k,n⟩=>[(3, .int .i64 n),(11, .int .i64 (k:Int))]) (λ⟨k,n⟩=>[]) (λ⟨k,n⟩=>k<=ls.length/\n=((ls.take k).flatten.length:Int)) (λ⟨k,n⟩=>ls.length-k) ⟨0,0⟩ ⟨rfl,rfl,trivial⟩ trivial ?_ ?_
 . exact⟨Nat.zero_le _,by simp⟩
 rintro⟨k,n⟩ hp1;obtain⟨hk1,hk2⟩:=hp1;have hg0:=D9_ ls k;refine kA 6 ?_;refine cn rfl (λp3=>?_) λp10=>?_
 . obtain⟨c4,hc5⟩:=getE (xs:=ls) (m:=k) (by omega);refine kA 6 ?_;refine kI k hc5 λw6=>?_;refine go G_ 19 rfl rfl ⟨(by have hg:=D9_ ls (k+1);have hfl:=congrArg List.length (B3_ (by assumption :ls[k]? = some _));simp only[List.length_append] at hfl;omega),trivial⟩ ?_;refine cnd rfl (λh7=>?_) (λh7=>?_)
   . have p8:=dt h7
     exfalso;omega
   have p9:=df h7;refine go G_ 7 rfl rfl ⟨(by have hg:=D9_ ls (k+1);have hfl:=congrArg List.length (B3_ (by assumption :ls[k]? = some _));simp only[List.length_append] at hfl;omega),trivial⟩ ?_;refine next ⟨(k+1),(n+(c4.length:Int))⟩ rfl rfl ⟨rfl,rfl,trivial⟩ trivial ?_ ?_
   . (try simp only[]);omega
   have hf:=B3_ hc5;have hg:=D9_ ls (k+1);have hfl:=congrArg List.length hf
   simp only[List.length_append] at hfl
   exact⟨by omega,by (try simp only[]);omega⟩
 refine kA 8 ?_;refine ef (ecallo 0 (grow_Mail _) rfl rfl λu12 w11=>?_);refine kA 12 ?_;refine sw_osl (t:=6) 0 rfl rfl ?_;refine loop (ι:=Nat×(List Mail)×Value) [0,2,3,9,10,11,12,23,24,25,26] [] (λ⟨k,out,u_out⟩=>[(6, .osl 0),(27, .int .i64 (k:Int))]) (λ⟨k,out,u_out⟩=>[(0, .arr u_out 7 64 Mail.pc out)]) (λ⟨k,out,u_out⟩=>k<=ls.length/\out=(ls.take k).flatten) (λ⟨k,out,u_out⟩=>ls.length-k) ⟨0,([]:List Mail),(u12)⟩ ⟨rfl,rfl,trivial⟩ ⟨rfl,trivial⟩ ?_ ?_
 . exact⟨Nat.zero_le _,by simp⟩
 rintro⟨k,out,u_out⟩ hp13;obtain⟨hk1,hk2⟩:=hp13;refine kA 6 ?_;refine cn rfl (λp15=>?_) λp20=>?_
 . obtain⟨c16,hc17⟩:=getE (xs:=ls) (m:=k) (by omega);refine kA 6 ?_;refine kI k hc17 λw18=>?_;refine kA 7 ?_;refine ef (app G_ c16 rfl rfl rfl rfl rfl rfl rfl rfl rfl (src_l rfl (λ_=>rfl)) (by have hg:=D9_ ls (k+1);have hfl:=congrArg List.length (B3_ (by assumption :ls[k]? = some _));simp only[List.length_append] at hfl;subst hk2;(try simp only[]);omega) rfl λu19=>?_);refine go G_ 8 rfl rfl ⟨(by have hg:=D9_ ls (k+1);have hfl:=congrArg List.length (B3_ (by assumption :ls[k]? = some _));simp only[List.length_append] at hfl;omega),trivial⟩ ?_;refine next ⟨(k+1),(out++c16),(u19)⟩ rfl rfl ⟨rfl,rfl,trivial⟩ ⟨rfl,trivial⟩ ?_ ?_
   . (try simp only[]);omega
   exact⟨by omega,by (try simp only[]);rw[B3_ hc17,hk2]⟩
 refine kA 11 ?_;refine givec 0 rfl<|kA 1 ?_;refine rt1 rfl rfl (ple ?_)
 rw[hk2,Me_ (by omega)]
theorem index_int (l:List Int) (x:Int):Fn prog gb 320 [.sl i64c l, .int .i64 x] (.int .i64 (idxP (λy=>decide (x=y)) l)):=by
 refine kG func320 ntmps320 λw N H hG=>?_;have l_l:l.length<=140737488355328:=w.1.1;have x_r:-9223372036854775808<=x/\x<=9223372036854775807:=w.2.1;refine kA 14 ?_;refine loop (ι:=Nat) [0,1,6,7] [] (λk=>[(8, .int .i64 (k:Int))]) (λk=>[]) (λk=>k<=l.length/\idxP (λy=>decide (x=y)) l=idxF (λy=>decide (x=y)) k (l.drop k)) (λk=>l.length-k) 0 ⟨rfl,trivial⟩ trivial ?_ ?_
 . exact⟨Nat.zero_le _,rfl⟩
 rintro k hp1;obtain⟨hik1,hik2⟩:=hp1;refine kA 6 ?_;refine cn rfl (λp3=>?_) λp10=>?_
 . obtain⟨c4,hc5⟩:=getE (xs:=l) (m:=k) (by omega);refine kA 15 ?_;refine kI k hc5 λw6=>?_;refine kA 4 ?_;refine cn rfl (λp8=>?_) λp9=>?_
   . refine kA 12 ?_;refine rt1 rfl rfl (ple ?_);exact congrArg (PV.int .i64) (Mz_ hik2 (E3_ hc5) (by first|assumption|(simp[*];done))).symm
   refine kC 7 ?_;refine next (k+1) rfl rfl ⟨rfl,trivial⟩ trivial ?_ ?_
   . omega
   exact⟨by omega,Kw_ hik2 (E3_ hc5) (by first|assumption|(simp[*];done)|grind)⟩
 refine kA 11 ?_;refine rt1 rfl rfl (ple ?_);exact congrArg (PV.int .i64) (My_ hik2 (by omega)).symm
theorem idxF_Shop (s:List W_) (f:FuncId) (f_fst f_cap:List PV) (f_p:W_->Bool) (f_h:∀ x,Fn prog gb f (argsP.apL f_fst ((.agg (W_.pc x))::f_cap)) (.bool (f_p x))):Fn prog gb 194 [.sl W_.pc s, .fn f f_fst f_cap] (.int .i64 (idxP f_p s)):=by
 refine kG func194 ntmps194 λw N H hG=>?_;have s_l:s.length<=140737488355328:=w.1.1;refine kA 14 ?_;refine loop (ι:=Nat) [0,1,6,7] [] (λk=>[(8, .int .i64 (k:Int))]) (λk=>[]) (λk=>k<=s.length/\idxP f_p s=idxF f_p k (s.drop k)) (λk=>s.length-k) 0 ⟨rfl,trivial⟩ trivial ?_ ?_
 . exact⟨Nat.zero_le _,rfl⟩
 rintro k hp1;obtain⟨hk1,hk2⟩:=hp1;refine kA 6 ?_;refine cnd rfl (λh2=>?_) (λh2=>?_)
 . have p3:=dt h2;obtain⟨c4,hc5⟩:=getE (xs:=s) (m:=k) (by omega);have c4_w:=W_.pwf (w.1.2 c4 (List.mem_of_getElem? hc5));refine kA 15 ?_;refine kI k hc5 λw6=>?_;refine kA 1 ?_;refine call (f_h c4) rfl rfl λw7=>kA 2 ?_;refine cnd rfl (λh8=>?_) (λh8=>?_)
   . refine kA 12 ?_;refine rt1 rfl rfl (ple ?_);exact congrArg (PV.int .i64) (Mz_ hk2 (E3_ hc5) (by assumption)).symm
   refine kC 7 ?_;refine next (k+1) rfl rfl ⟨rfl,trivial⟩ trivial ?_ ?_
   . omega
   exact⟨by omega,Kw_ hk2 (E3_ hc5) (by assumption)⟩
 have p9:=df h2;refine kA 11 ?_;refine rt1 rfl rfl (ple ?_);exact congrArg (PV.int .i64) (My_ hk2 (by omega)).symm
theorem clone_Place (s:List A3_) (hl:s.length<=100000000:=by first|omega|(simp;done)|(simp;omega)):Fn prog gb 60 [.sl A3_.pc s] (.sl A3_.pc s):=by
 refine kG func60 ntmps60 λw N H hG=>?_;refine kA 9 ?_;refine ef (lnil G_ rfl rfl rfl rfl rfl λb1 hb2=>?_);refine kA 2 ?_;refine cnd rfl (λh3=>?_) (λh3=>?_)
 . refine kA 7 ?_;refine rt1 rfl rfl ?_;refine Jp_ ?_;exact hb2 (by assumption)
 refine kA 4 ?_;refine ef (bsl 0 A3_.pc [] G_ rfl rfl rfl rfl rfl (λ_=>rfl) rfl (by decide) (by decide) rfl λu4=>?_);refine kA 1 ?_;refine ef (app G_ s rfl rfl rfl rfl rfl rfl rfl rfl rfl (src_l rfl (λ_=>rfl)) (by first|omega|(simp;omega)) rfl λu5=>?_);refine kA 3 ?_;refine givec 0 rfl<|kA 1 ?_;refine rt1 rfl rfl (ple ?_)
 simp
theorem clone_Grant (s:List B0_) (hl:s.length<=100000000:=by first|omega|(simp;done)|(simp;omega)):Fn prog gb 62 [.sl B0_.pc s] (.sl B0_.pc s):=by
 refine kG func62 ntmps62 λw N H hG=>?_;refine kA 9 ?_;refine ef (lnil G_ rfl rfl rfl rfl rfl λb1 hb2=>?_);refine kA 2 ?_;refine cnd rfl (λh3=>?_) (λh3=>?_)
 . refine kA 7 ?_;refine rt1 rfl rfl ?_;refine Jp_ ?_;exact hb2 (by assumption)
 refine kA 4 ?_;refine ef (bsl 0 B0_.pc [] G_ rfl rfl rfl rfl rfl (λ_=>rfl) rfl (by decide) (by decide) rfl λu4=>?_);refine kA 1 ?_;refine ef (app G_ s rfl rfl rfl rfl rfl rfl rfl rfl rfl (src_l rfl (λ_=>rfl)) (by first|omega|(simp;omega)) rfl λu5=>?_);refine kA 3 ?_;refine givec 0 rfl<|kA 1 ?_;refine rt1 rfl rfl (ple ?_)
 simp
theorem clone_Note (s:List D5_) (hl:s.length<=100000000:=by first|omega|(simp;done)|(simp;omega)):Fn prog gb 81 [.sl D5_.pc s] (.sl D5_.pc s):=by
 refine kG func81 ntmps81 λw N H hG=>?_;refine kA 9 ?_;refine ef (lnil G_ rfl rfl rfl rfl rfl λb1 hb2=>?_);refine kA 2 ?_;refine cnd rfl (λh3=>?_) (λh3=>?_)
 . refine kA 7 ?_;refine rt1 rfl rfl ?_;refine Jp_ ?_;exact hb2 (by assumption)
 refine kA 4 ?_;refine ef (bsl 0 D5_.pc [] G_ rfl rfl rfl rfl rfl (λ_=>rfl) rfl (by decide) (by decide) rfl λu4=>?_);refine kA 1 ?_;refine ef (app G_ s rfl rfl rfl rfl rfl rfl rfl rfl rfl (src_l rfl (λ_=>rfl)) (by first|omega|(simp;omega)) rfl λu5=>?_);refine kA 3 ?_;refine givec 0 rfl<|kA 1 ?_;refine rt1 rfl rfl (ple ?_)
 simp
theorem O9_ (s:List M_) (hl:s.length<=100000:=by first|omega|(simp;omega)|decide +kernel):Fo prog gb 243 [.sl M_.pc s] (λu=> .val u) 9 68 M_.pc s:=by
 refine Wf_ G_ func243 rfl ntmps243 rfl cb243 (λ_=>rfl) rfl λw N H hG=>?_;refine kA 9 ?_;refine ef (lnil G_ rfl rfl rfl rfl rfl λb1 hb2=>?_);refine kA 2 ?_;refine cnd rfl (λh3=>?_) (λh3=>?_)
 . refine kA 5 ?_;refine sw_own (t:=2) (k:=9) (e:=68) 0 M_.pc rfl rfl ?_;refine sw_val (t:=2) (i:=0) rfl rfl<|kA 2 ?_;refine ro1 (j:=0) rfl rfl rfl ?_
   first|(exact (hb2 (by assumption)).symm)|(exact hb2 (by assumption))|simp
 refine kA 4 ?_;refine ef (bsl 0 M_.pc [] G_ rfl rfl rfl rfl rfl (λ_=>rfl) rfl (by decide) (by decide) rfl λu4=>?_);refine kA 1 ?_;refine ef (app G_ s rfl rfl rfl rfl rfl rfl rfl rfl rfl (src_l rfl (λ_=>rfl)) (by first|omega|(simp;omega)) rfl λu5=>?_);refine kA 3 ?_;refine sw_val (t:=2) (i:=0) rfl rfl<|kA 1 ?_;refine ro1 (j:=0) rfl rfl rfl ?_
 first|(exact (hb2 (by assumption)).symm)|(exact hb2 (by assumption))|simp
theorem oclone_row (s:List Gi_) (hl:s.length<=100000:=by first|omega|(simp;omega)|decide +kernel):Fo prog gb 186 [.sl Gi_.pc s] (λu=> .val u) 5 167 Gi_.pc s:=by
 refine Wf_ G_ func186 rfl ntmps186 rfl cb186 (λ_=>rfl) rfl λw N H hG=>?_;refine kA 9 ?_;refine ef (lnil G_ rfl rfl rfl rfl rfl λb1 hb2=>?_);refine kA 2 ?_;refine cnd rfl (λh3=>?_) (λh3=>?_)
 . refine kA 5 ?_;refine sw_own (t:=2) (k:=5) (e:=167) 0 Gi_.pc rfl rfl ?_;refine sw_val (t:=2) (i:=0) rfl rfl<|kA 2 ?_;refine ro1 (j:=0) rfl rfl rfl ?_
   first|(exact (hb2 (by assumption)).symm)|(exact hb2 (by assumption))|simp
 refine kA 4 ?_;refine ef (bsl 0 Gi_.pc [] G_ rfl rfl rfl rfl rfl (λ_=>rfl) rfl (by decide) (by decide) rfl λu4=>?_);refine kA 1 ?_;refine ef (app G_ s rfl rfl rfl rfl rfl rfl rfl rfl rfl (src_l rfl (λ_=>rfl)) (by first|omega|(simp;omega)) rfl λu5=>?_);refine kA 3 ?_;refine sw_val (t:=2) (i:=0) rfl rfl<|kA 1 ?_;refine ro1 (j:=0) rfl rfl rfl ?_
 first|(exact (hb2 (by assumption)).symm)|(exact hb2 (by assumption))|simp
theorem clone_int (s:List Int) (hl:s.length<=100000000:=by first|omega|(simp;done)|(simp;omega)):Fn prog gb 61 [.sl i64c s] (.sl i64c s):=by
 refine kG func61 ntmps61 λw N H hG=>?_;refine kA 9 ?_;refine ef (lnil G_ rfl rfl rfl rfl rfl λb1 hb2=>?_);refine kA 2 ?_;refine cnd rfl (λh3=>?_) (λh3=>?_)
 . refine kA 7 ?_;refine rt1 rfl rfl ?_;refine Jp_ ?_;exact hb2 (by assumption)
 refine kA 4 ?_;refine ef (bsl 0 i64c [] G_ rfl rfl rfl rfl rfl (λ_=>rfl) rfl (by decide) (by decide) rfl λu4=>?_);refine kA 1 ?_;refine ef (app G_ s rfl rfl rfl rfl rfl rfl rfl rfl rfl (src_l rfl (λ_=>rfl)) (by first|omega|(simp;omega)) rfl λu5=>?_);refine kA 3 ?_;refine givec 0 rfl<|kA 1 ?_;refine rt1 rfl rfl (ple ?_)
 simp
theorem H6_ (p:C_) (from_:Int) (to_:Int):Fn prog gb 107 [.agg (C_.pc p), .int .i64 from_, .int .i64 to_] (.bool (Ed_ p from_ to_)):=by
 refine kG func107 ntmps107 λw N H hG=>?_;have e0:=Ed_.eq_1 p from_ to_;refine kB 7 [0] λB2=>?_;refine aN [1,2,3,4,5,6] 29 mixd<|kE [0,1,2,3,4,5] 23 ?_;refine vcallg 6 rfl (by kernel_rfl) rfl (λhc=>(Fj_ _ _)) rfl rfl ⟨(λhc=>hc),(λhc=>hc),trivial⟩ rfl λ_=>kF [7,8,9,10] 18 ?_;refine vcallg 11 rfl (by kernel_rfl) rfl (λhc=>(Fj_ _ _)) rfl rfl ⟨(λhc=>hc),(λhc=>hc),trivial⟩ rfl λ_=>kF [12,13,14,15,16] 12 ?_;refine vqg 17 [22,23] rfl (by kernel_rfl) rfl rfl (λhc=>qidx G_ (from_).toNat rfl rfl (by simp only[gOf,B1_,D8_,Bool.and_eq_true,Bool.or_eq_true,Bool.not_eq_true',decide_eq_true_eq,decide_eq_false_iff_not,cond_true,cond_false] at hc;omega) (getG (by simp only[gOf,B1_,D8_,Bool.and_eq_true,Bool.or_eq_true,Bool.not_eq_true',decide_eq_true_eq,decide_eq_false_iff_not,cond_true,cond_false] at hc;omega)) rfl rfl rfl rfl) ⟨(λhc=>hc),(λhc=>hc),trivial⟩ rfl λ_=>?_;refine kF [18,19,20,21,22] 6 ?_;refine vqg 23 [28,29] rfl (by kernel_rfl) rfl rfl (λhc=>qidx G_ (to_).toNat rfl rfl (by simp only[gOf,B1_,D8_,Bool.and_eq_true,Bool.or_eq_true,Bool.not_eq_true',decide_eq_true_eq,decide_eq_false_iff_not,cond_true,cond_false] at hc;omega) (getG (by simp only[gOf,B1_,D8_,Bool.and_eq_true,Bool.or_eq_true,Bool.not_eq_true',decide_eq_true_eq,decide_eq_false_iff_not,cond_true,cond_false] at hc;omega)) rfl rfl rfl rfl) ⟨(λhc=>hc),(λhc=>hc),trivial⟩ rfl λ_=>?_;refine kF [24,25] 3 ?_;refine vcallg 26 rfl (by kernel_rfl) rfl (λhc=>(Hw_ _ _)) rfl rfl ⟨(λhc=>hc),(λhc=>hc),trivial⟩ rfl λ_=>kF [27,28] 0 ?_;refine vD<|kA 2 ?_;exact rt1 rfl rfl (Am_ (λr:Bool=> .bool r) e0 (ple rfl))
theorem G4_ (p:C_) (name:Bs):Fn prog gb 112 [.agg (C_.pc p), .str name] (.int .i64 (T_ p name)):=by
 refine kG func112 ntmps112 λw N H hG=>?_;have e0:=T_.eq_1 p name;refine kB 11 [0,1] λB2=>?_;refine freeze (i:=1) (t:=3) rfl rfl rfl rfl<|kA 1 ?_;refine call (U2_ _ _ _ _ (λz_4:A3_=>(Kf_ z_4 name)) (λz_4=>Tx_ z_4 name)) rfl rfl λw5=>?_;have hix5:=H8_ (λz_4:A3_=>(Kf_ z_4 name)) p.places;refine kA 4 ?_;exact rt1 rfl rfl (Am_ (λr:Int=> .int .i64 r) e0 (ple rfl))
theorem H7_ (p:C_) (from_:Int) (to_:Int):Fn prog gb 108 [.agg (C_.pc p), .int .i64 from_, .int .i64 to_] (.int .i64 (Ak_ p from_ to_)):=by
 refine kG func108 ntmps108 λw N H hG=>?_;have e0:=Ak_.eq_1 p from_ to_;refine kB 12 [0,1,2] λB2=>?_;refine freeze (i:=1) (t:=4) rfl rfl rfl rfl<|freeze (i:=2) (t:=5) rfl rfl rfl rfl ?_;refine kA 1 ?_;refine call (U1_ _ _ _ _ (λz_5:B0_=>(Io_ z_5 from_ to_)) (λz_5=>Rm_ z_5 from_ to_)) rfl rfl λw6=>?_;have hix6:=H8_ (λz_5:B0_=>(Io_ z_5 from_ to_)) p.grants;refine kA 4 ?_;exact rt1 rfl rfl (Am_ (λr:Int=> .int .i64 r) e0 (ple rfl))
theorem Jo_ (n:B7_) (x:D5_) (hk:n.kept.length<=1000:=by first|omega|(simp;omega)|decide +kernel):Fn prog gb 42 [.agg (B7_.pc n), .agg (D5_.pc x)] (.tup [.agg (B7_.pc ((C4_ n x).1)), .int .i64 ((C4_ n x).2)]):=by
 refine kG func42 ntmps42 λw N H hG=>?_;have e0:=C4_.eq_1 n x;generalize C4_ n x=z at e0 ⊢;refine kB 19 [0,1,2] λB2=>?_;refine cD e0 (λp6 e7=>?_) (λp9 e10=>?_)
 . refine kB 10 [] λ_=>?_;subst e7;exact qr2
 refine kA 8 ?_;refine cD e10 (λp12 e13=>?_) (λp15 e16=>?_)
 . refine kB 10 [] λ_=>?_;subst e13;exact qr2
 refine kA 8 ?_;refine ef (bsl 3 D5_.pc [x] G_ rfl rfl rfl rfl rfl (λ_=>rfl) rfl (by decide) (by decide) rfl λu17=>?_);refine give 3 rfl<|ef (bsl 3 (slc D5_.pc) [n.kept,[x]] G_ rfl rfl rfl rfl rfl (λ_=>rfl) rfl (by decide) (by decide) rfl λu18=>?_);refine give 3 rfl<|call (concat_Note _) rfl rfl λw19=>?_;have hfl19:([n.kept,[x]].flatten).length=n.kept.length+1:=by simp only[List.flatten_cons,List.flatten_nil,List.length_append,List.length_nil,List.length_cons,Nat.add_zero,Nat.zero_add]
 refine kA 4 ?_;refine aN [2,3,4,5,6,7,8] 12 mixd ?_;have :=Hg_ (n.total+1);refine kF [0,1,2,3,4,5,6,7] 4 ?_;refine vq 8 (lslo G_ ((max 0 ((([n.kept,[x]].flatten).length:Int)-32))).toNat rfl rfl rfl rfl rfl (λ_=>rfl) (by (try dsimp only);omega) (by (try dsimp only);omega)) rfl (by kernel_rfl) rfl λw21=>?_;refine kE [9] 2 ?_;refine vT 10 rfl (sA G_ ?_);refine kE [11] 0 ?_;refine vD<|kA 2 ?_;subst e16;exact qr2
theorem Ly_ (n:B7_) (number:Int):Fn prog gb 265 [.agg (B7_.pc n), .int .u64 number] (.tup [.agg (D5_.pc ((Hm_ n number).1)), .bool ((Hm_ n number).2)]):=by
 refine kG func265 ntmps265 λw N H hG=>?_;have n_total_r:0<=n.total/\n.total<=18446744073709551615:=w.1.1;have n_kept_l:n.kept.length<=140737488355328:=w.1.2.1.1;have number_r:0<=number/\number<=18446744073709551615:=w.2.1;have e0:=Hm_.eq_1 n number;generalize Hm_ n number=z at e0 ⊢;refine kB 14 [0,1] λB2=>?_;refine q1 (qconv G_ rfl rfl rfl rfl (Lj_ (by omega))) rfl λw4=>?_;have :=Hg_ (n.total-(n.kept.length:Int));refine kC 18 ?_;refine cE e0 (λh5 e6=>?_) (λh5 e12=>?_)
 . refine kB 9 [] λ_=>?_;subst e6;exact qr2
 have h8:=orl h5;have p9:=df h8;have h10:=orr h5;have p11:=df h10;have :=Hg_ (number-(IntKind.wrap .u64 (n.total-(n.kept.length:Int))));have :=Hg_ ((IntKind.wrap .u64 (number-(IntKind.wrap .u64 (n.total-(n.kept.length:Int)))))-1);have hc13:=getG (xs:=n.kept) (k:=((IntKind.wrap .u64 ((IntKind.wrap .u64 (number-(IntKind.wrap .u64 (n.total-(n.kept.length:Int)))))-1))).toNat) (by simp only[IntKind.wrap_u64] at *;omega);refine kA 10 ?_;refine q1 (qidx G_ ((IntKind.wrap .u64 ((IntKind.wrap .u64 (number-(IntKind.wrap .u64 (n.total-(n.kept.length:Int)))))-1))).toNat rfl rfl (by omega) hc13 rfl rfl rfl rfl) rfl λw14=>kB 6 [] λ_=>?_;subst e12;exact qr2
theorem Lx_ (n:B7_) (hk:n.kept.length<=1000:=by first|omega|(simp;omega)|decide +kernel):Fn prog gb 23 [.agg (B7_.pc n)] (.sl D5_.pc (Dq_ n)):=by
 refine kG func23 ntmps23 λw N H hG=>?_;have e0:=Dq_.eq_1 n;refine kB 10 [0] λB2=>?_;refine call (clone_Note _) rfl rfl λw3=>kA 4 ?_;exact rt1 rfl rfl (Am_ (λr:(List D5_)=> .sl D5_.pc r) e0 (ple rfl))
theorem Nu_ (l:Ae_) (id:Int):Fn prog gb 237 [.agg (Ae_.pc l), .int .u64 id] (.int .i64 (Bd_ l id)):=by
 refine kG func237 ntmps237 λw N H hG=>?_;have e0:=Bd_.eq_1 l id;refine kB 11 [0,1] λB2=>?_;refine freeze (i:=1) (t:=3) rfl rfl rfl rfl<|kA 1 ?_;refine call (Sx_ _ _ _ _ (λz_4:M_=>(M4_ z_4 id)) (λz_4=>line_of1_ok z_4 id)) rfl rfl λw5=>?_;have hix5:=H8_ (λz_4:M_=>(M4_ z_4 id)) l.items;refine kA 4 ?_;exact rt1 rfl rfl (Am_ (λr:Int=> .int .i64 r) e0 (ple rfl))
theorem P4_ (l:Ae_) (m:Mail):Fn prog gb 277 [.agg (Ae_.pc l), .agg (Mail.pc m)] (.int .i64 (E6_ l m)):=by
 refine kG func277 ntmps277 λw N H hG=>?_;have l_items_l:l.items.length<=140737488355328:=w.1.1.1;have m_head_l:m.head.length<=140737488355328:=w.2.1.2.2.2.1.1;have e0:=E6_.eq_1 l m;generalize E6_ l m=z at e0 ⊢;refine kB 11 [0,1] λB2=>?_;refine call (J2_ _) rfl rfl λw4=>?_;have :=Nz_ m;have hmo4:=λh=>Hs_ (m:=m) h;refine kA 9 ?_;refine cN e0 (λp7 e8=>?_) (λp10 e11=>?_)
 . refine kA 8 ?_;subst e8;exact qr1
 refine kA 13 ?_;refine aN [2,3,4,5,6,7] 16 mixd<|kF [0,1,2,3,4,5,6] 9 ?_;refine vqg 7 [20,22] rfl (by kernel_rfl) rfl rfl (λhc=>qidx G_ (((l.items.length:Int)-1)).toNat rfl rfl (by first|omega|(simp only[gOf,bl2] at *;omega)) (getG (by first|omega|(simp only[gOf,bl2] at *;omega))) rfl rfl rfl rfl) ⟨(λhc=>hc),(λhc=>hc),trivial⟩ rfl λ_=>?_;refine kF [8,9,10,11,12,13,14,15] 0 ?_;refine vD<|kA 1 ?_;refine cE e11 (λh12 e17=>?_) (λh12 e18=>?_)
 . have h13:=bl h12;have p14:=dt h13;have h15:=br h12;have p16:=dt h15;refine kA 8 ?_;subst e17;exact qr1
 refine kA 7 ?_;refine cD e18 (λp20 e21=>?_) (λp22 e23=>?_)
 . refine kA 8 ?_;subst e21;exact qr1
 refine kA 9 ?_;subst e23;exact qr1
theorem Ml_ (l:Ae_):Fn prog gb 234 [.agg (Ae_.pc l), .fn 235 [] []] (.int .i64 (Ci_ l)):=by
 refine kG func234 ntmps234 λw N H hG=>?_;have e0:=Ci_.eq_1 l;refine kB 11 [0,1] λB2=>?_;refine freeze (i:=1) (t:=3) rfl rfl rfl rfl<|kA 1 ?_;refine call (Sx_ _ _ _ _ (λz_4:M_=>(Ik_ z_4)) (λz_4=>P5_ z_4)) rfl rfl λw5=>?_;have hix5:=H8_ (λz_4:M_=>(Ik_ z_4)) l.items;refine kA 4 ?_;exact rt1 rfl rfl (Am_ (λr:Int=> .int .i64 r) e0 (ple rfl))
theorem P6_ (l:Ae_) (so:Int):Fn prog gb 234 [.agg (Ae_.pc l), .fn 241 [] [.el [.int .u64 so] 0]] (.int .i64 (Fr_ l so)):=by
 refine kG func234 ntmps234 λw N H hG=>?_;have e0:=Fr_.eq_1 l so;refine kB 11 [0,1] λB2=>?_;refine freeze (i:=1) (t:=3) rfl rfl rfl rfl<|kA 1 ?_;refine call (Sx_ _ _ _ _ (λz_4:M_=>(Hy_ z_4 so)) (λz_4=>O8_ z_4 so)) rfl rfl λw5=>?_;have hix5:=H8_ (λz_4:M_=>(Hy_ z_4 so)) l.items;refine kA 4 ?_;exact rt1 rfl rfl (Am_ (λr:Int=> .int .i64 r) e0 (ple rfl))
abbrev R2_:(Ae_×Int)->PV:=λr=> .tup [.agg (Ae_.pc r.1), .int .i64 r.2]
abbrev R3_:M_->PV:=λr=> .agg (M_.pc r)
theorem cb187:Ad_ prog 187:=Aa_ func187 (by kernel_rfl) (by kernel_rfl)
theorem cb188:Ad_ prog 188:=Aa_ func188 (by kernel_rfl) (by kernel_rfl)
theorem cb236:Ad_ prog 236:=Aa_ func236 (by kernel_rfl) (by kernel_rfl)
theorem cb238:Ad_ prog 238:=Aa_ func238 (by kernel_rfl) (by kernel_rfl)
theorem fl68_1:Fld prog 68 1 7:=λb o w=>by kernel_rfl
theorem fl68_2:Fld prog 68 2 8:=λb o w=>by kernel_rfl
theorem Ng_ (l:Ae_) (x:M_) (hh:x.Ab_.head.length<=1000000:=by omega):Fn prog gb 248 [.agg (Ae_.pc l), .agg (M_.pc x)] (.tup [.agg (Ae_.pc ((Ej_ l x).1)), .int .i64 ((Ej_ l x).2)]):=by
 refine kG func248 ntmps248 λw N H hG=>?_;have e0:=Ej_.eq_1 l x;generalize Ej_ l x=z at e0 ⊢;refine kB 14 [0,1,2] λB2=>?_;refine cV e0 R0_ (P4_ _ _) rfl λr hr5 e7 w6=>?_
 (try have hA7:=@Yx_ l x.Ab_;(try rw[<- hr5] at hA7))
 refine kA 9 ?_;refine cN e7 (λp11 e12=>?_) (λp15 e16=>?_)
 . refine kB 10 [] λ_=>?_;subst e12;exact qr2
 refine kA 3 ?_;refine aN [2,3,4,5,6,7,8] 10 mixd<|kE [0,1,2] 7 ?_;refine vE 3 rfl (eC (Ia_ _) rfl ?_);generalize hr18:B6_ x=r1;intro w17;have e19:=e16.trans (C3_ hr18.symm);refine vE 4 rfl (bsl 3 M_.pc [r1] G_ rfl rfl rfl rfl rfl (λ_=>rfl) rfl (by decide) (by decide) rfl λu20=>?_);refine vE 5 rfl (Uf_ 3 rfl (bsl 3 (slc M_.pc) [l.items,[r1]] G_ rfl rfl rfl rfl rfl (λ_=>rfl) rfl (by decide) (by decide) rfl λu21=>?_));refine vE 6 rfl (Uf_ 3 rfl (eweak (eC (Sm_ _) rfl λw22=>?_)));have hfl22:([l.items,[r1]].flatten).length=l.items.length+1:=by simp only[List.flatten_cons,List.flatten_nil,List.length_append,List.length_nil,List.length_cons,Nat.add_zero,Nat.zero_add]
 refine kE [7] 2 ?_;refine vT 8 rfl (sA G_ ?_);refine kE [9] 0 ?_;refine vD<|kA 2 ?_;subst e19;exact qr2
theorem Kl_ (l:Ae_) (m:Mail) (hh:m.head.length<=1000000:=by omega):Fn prog gb 231 [.agg (Ae_.pc l), .agg (Mail.pc m)] (.tup [.agg (Ae_.pc ((Ct_ l m).1)), .int .i64 ((Ct_ l m).2)]):=by
 refine kG func231 ntmps231 λw N H hG=>?_;have e0:=Ct_.eq_1 l m;refine kB 13 [0,1,2] λB2=>?_;refine cV e0 R2_ (Ng_ _ (⟨m,false,false⟩:M_)) rfl λr hr5 e7 w6=>kB 7 [] λ_=>?_;exact rt2 rfl rfl (Am_ (λr:Ae_×Int=> .tup [.agg (Ae_.pc r.1), .int .i64 r.2]) e7 (ple rfl))
theorem Lc_ (l:Ae_) (id:Int) (hl:LnOk l:=by assumption):Fn prog gb 180 [.agg (Ae_.pc l), .int .u64 id] (.tup [.agg (Ae_.pc ((An_ l id).1)), .agg (M_.pc ((An_ l id).2.1)), .int .i64 ((An_ l id).2.2)]):=by
 refine kG func180 ntmps180 λw N H hG=>?_;have hl0:=hl;obtain⟨hl1,hl2,hl3⟩:=hl0;have e0:=An_.eq_1 l id;generalize An_ l id=z at e0 ⊢;refine kB 12 [0,1,2] λB2=>?_;refine cV e0 R0_ (Nu_ _ _) rfl λr hr5 e7 w6=>?_;have hA7:=lof_b l id
 (try rw[<- hr5] at hA7)
 refine kA 10 ?_;refine cD e7 (λp10 e11=>?_) (λp13 e14=>?_)
 . refine kB 11 [] λ_=>?_;subst e11;exact qr3
 have hc15:=getG (xs:=l.items) (k:=(r).toNat) (by omega);have hz_hc15:=(hl2 (gt l.items ((r).toNat)) (List.mem_of_getElem? hc15)).1;refine kA 7 ?_;refine q1 (qidx G_ (r).toNat rfl rfl (by omega) hc15 rfl rfl rfl rfl) rfl λw16=>kA 1 ?_;refine cV e14 R3_ (Ia_ _) rfl λr1 hr17 e19 w18=>kB 5 [3] λB21=>?_;refine aN [1,2,4,5,6,7,8,9] 16 mixd<|kE [0,1,2] 13 ?_;refine vq 3 (lshi G_ (r).toNat rfl rfl rfl rfl rfl (λ_=>rfl) (by omega) (by omega)) rfl (by kernel_rfl) rfl λw22=>kF [4,5,6,7] 8 ?_;refine vq 8 (lslo G_ ((r+1)).toNat rfl rfl rfl rfl rfl (λ_=>rfl) (by omega) (by omega)) rfl (by kernel_rfl) rfl λw23=>kE [12] 6 ?_;refine vE 9 rfl (bsl 4 (slc M_.pc) [(l.items.take (r).toNat),(l.items.drop ((r+1)).toNat)] G_ rfl rfl rfl rfl rfl (λ_=>rfl) rfl (by decide) (by decide) rfl λu24=>?_);refine vE 10 rfl (Uf_ 4 rfl (eweak (eC (Sm_ _) rfl λw25=>?_)));have hfl25:([(l.items.take (r).toNat),(l.items.drop ((r+1)).toNat)].flatten).length=(l.items.take (r).toNat).length+(l.items.drop ((r+1)).toNat).length:=by simp only[List.flatten_cons,List.flatten_nil,List.length_append,List.length_nil,List.length_cons,Nat.add_zero,Nat.zero_add]
 refine kE [11] 3 ?_;refine vE 13 rfl (sA G_ ?_);refine vT 14 rfl (sA G_ ?_);refine kE [15] 0 ?_;refine vD<|kA 2 ?_;subst e19;exact qr3
theorem Mk_ (l:Ae_) (k:Int) (hl:LnOk l:=by assumption) (hk:k<l.items.length:=by omega):Fn prog gb 240 [.agg (Ae_.pc l), .int .i64 k] (.tup [.agg (Mail.pc ((C7_ l k).1)), .bool ((C7_ l k).2)]):=by
 refine kG func240 ntmps240 λw N H hG=>?_;have hl0:=hl;obtain⟨hl1,hl2,hl3⟩:=hl0;have e0:=C7_.eq_1 l k;generalize C7_ l k=z at e0 ⊢;refine kB 14 [0,1] λB2=>?_;refine cD e0 (λp5 e6=>?_) (λp8 e9=>?_)
 . refine kB 9 [] λ_=>?_;subst e6;exact qr2
 have hc10:=getG (xs:=l.items) (k:=(k).toNat) (by omega);have hz_hc10:=(hl2 (gt l.items ((k).toNat)) (List.mem_of_getElem? hc10)).1;refine kA 7 ?_;refine q1 (qidx G_ (k).toNat rfl rfl (by omega) hc10 rfl rfl rfl rfl) rfl λw11=>kA 2 ?_;refine cV e9 R1_ (G3_ _) rfl λr hr12 e14 w13=>kB 5 [] λ_=>?_;subst e14;exact qr2
theorem Qy_ (l:Ae_):Fn prog gb 145 [.agg (Ae_.pc l)] (.int .i64 (E2_ l)):=by
 refine kG func145 ntmps145 λw N H hG=>?_;have l_items_l:l.items.length<=140737488355328:=w.1.1.1;have e0:=E2_.eq_1 l;refine kB 21 [0] λB2=>?_;refine loop (ι:=Nat×Int) [2,7,8] [0] (λ⟨k,n⟩=>[(9, .int .i64 (k:Int)),(3, .int .i64 n)]) (λ⟨k,n⟩=>[]) (λ⟨k,n⟩=>k<=l.items.length/\E2_ l=B9_ (l.items.drop k) n/\0<=n/\n<=3000*k) (λ⟨k,n⟩=>l.items.length-k) ⟨0,0⟩ ⟨rfl,rfl,trivial⟩ trivial ?_ ?_
 . exact⟨Nat.zero_le _,e0,(by first|omega|(simp;done)|(simp;omega))⟩
 rintro⟨k,n⟩ ⟨hp3_1,hp3_2,hp3_3⟩;refine kA 6 ?_;refine cn rfl (λp5=>?_) λp15=>?_
 . have e6:=C5_ (f:=λzz=>B9_ zz n) hp3_2 (Gs_ (by omega)) (B9_.eq_2 _ _ _);have hc7:=getG (xs:=l.items) (k:=k) (by omega);refine kA 6 ?_;refine kI k hc7 λw8=>?_;refine kB 9 [1] λB10=>?_;refine cV e6 R0_ (Lu_ _) rfl λr hr11 e13 w12=>?_;have hA13:=Ri_ ((gt l.items k).Ab_)
   (try rw[<- hr11] at hA13)
   refine kC 9 ?_;refine next ⟨(k+1),(n+r)⟩ rfl rfl ⟨rfl,rfl,trivial⟩ trivial ?_ ?_
   . (try simp only[]);omega
   exact⟨by (try simp only[]);omega,e13,by (try simp only[]);omega⟩
 have e16:=C5_ (f:=λzz=>B9_ zz n) hp3_2 (Gy_ (by omega)) (B9_.eq_1 _);refine kA 12 ?_;exact rt1 rfl rfl (Am_ (λr:Int=> .int .i64 r) e16 (ple rfl))
theorem Jz_ (l:Ae_) (hl:LnOk l:=by assumption):Fn prog gb 178 [.agg (Ae_.pc l)] (.tup [.agg (Ae_.pc ((C6_ l).1)), .agg (M_.pc ((C6_ l).2.1)), .bool ((C6_ l).2.2)]):=by
 refine kG func178 ntmps178 λw N H hG=>?_;have hl0:=hl;obtain⟨hl1,hl2,hl3⟩:=hl0;have e0:=C6_.eq_1 l;generalize C6_ l=z at e0 ⊢;refine kB 11 [0,1,2] λB2=>?_;refine cV e0 R0_ (Ml_ _) rfl λr hr5 e7 w6=>?_;have hA7:=Ry_ l
 (try rw[<- hr5] at hA7)
 refine kA 10 ?_;refine cD e7 (λp10 e11=>?_) (λp13 e14=>?_)
 . refine kB 11 [] λ_=>?_;subst e11;exact qr3
 refine kA 6 ?_;refine hinl [] G_ func187 rfl ntmps187 cb187 rfl rfl rfl rfl λHc15 hHc15=>?_;refine kB 10 [3,4] λB17=>?_;refine ef (ecallo 5 (O9_ _) rfl rfl λu20 w19=>?_);refine kA 8 ?_;refine so_osl (t:=12) 5 rfl rfl<|q1 (eidx (r).toNat G_ rfl rfl rfl rfl rfl rfl rfl (by omega) (by omega)) rfl λw21=>hinl [12] G_ func236 rfl ntmps236 cb236 rfl rfl rfl rfl λHc22 hHc22=>kA 3 ?_;refine q1 (efld rfl fl68_1) rfl λw23=>?_;have hc24:=getG (xs:=l.items) (k:=(r).toNat) (by omega);have hz_hc24:=(hl2 (gt l.items ((r).toNat)) (List.mem_of_getElem? hc24)).1;refine ef (est1 (i:=5) ((r).toNat) 7 (⟨(gt l.items ((r).toNat)).Ab_,true,(gt l.items ((r).toNat)).again⟩:M_) G_ rfl rfl rfl rfl rfl rfl (by omega) rfl (by decide) (λ_ h=>by obtain rfl :=Option.some.inj (h.symm.trans hc24);rfl) ?_);have hset24:(l.items.set ((r).toNat) (⟨(gt l.items ((r).toNat)).Ab_,true,(gt l.items ((r).toNat)).again⟩:M_)).length=l.items.length:=List.length_set ..;refine kA 1 ?_;refine inln rfl rfl rfl ⟨rfl,trivial⟩ ?_;refine kA 5 ?_;refine so_osl (t:=16) 5 rfl rfl<|so_osl (t:=10) 5 rfl rfl ?_;refine so_osl (t:=7) 5 rfl rfl<|give 5 rfl ?_;refine kB 5 [] λ_=>?_;refine inlr rfl rfl rfl trivial<|kB 4 [] λ_=>?_;refine aN [1,2,5,6,7,8,9,10] 10 mixd<|kE [0,1,2,3] 6 ?_;have hc28:=getG (xs:=(l.items.set ((r).toNat) (⟨(gt l.items ((r).toNat)).Ab_,true,(gt l.items ((r).toNat)).again⟩:M_))) (k:=(r).toNat) (by omega);have hz_hc28:((gt (l.items.set ((r).toNat) (⟨(gt l.items ((r).toNat)).Ab_,true,(gt l.items ((r).toNat)).again⟩:M_)) ((r).toNat))).Ab_.head.length<=8:=by rw[Xz_ (by (try simp only[List.length_set]);omega)];(try rw[Xz_ (by omega)]);exact (hl2 _ (List.mem_of_getElem? (getG (by omega)))).1
 refine vq 4 (qidx G_ (r).toNat rfl rfl (by omega) hc28 rfl rfl rfl rfl) rfl (by kernel_rfl) rfl λw29=>kE [5] 4 ?_;refine vE 6 rfl (eC (Ia_ _) rfl ?_);generalize hr31:B6_ (gt (l.items.set ((r).toNat) (⟨(gt l.items ((r).toNat)).Ab_,true,(gt l.items ((r).toNat)).again⟩:M_)) ((r).toNat))=r1;intro w30;have e32:=e14.trans (C3_ hr31.symm);refine vE 7 rfl (sA G_ ?_);refine vT 8 rfl (sA G_ ?_);refine kE [9] 0 ?_;refine vD<|kA 2 ?_;subst e32;exact qr3
theorem Mj_ (l:Ae_) (id:Int) (hl:LnOk l:=by assumption):Fn prog gb 179 [.agg (Ae_.pc l), .int .u64 id] (.tup [.agg (Ae_.pc ((Eg_ l id).1)), .int .i64 ((Eg_ l id).2)]):=by
 refine kG func179 ntmps179 λw N H hG=>?_;have hl0:=hl;obtain⟨hl1,hl2,hl3⟩:=hl0;have e0:=Eg_.eq_1 l id;generalize Eg_ l id=z at e0 ⊢;refine kB 11 [0,1] λB2=>?_;refine cV e0 R0_ (Nu_ _ _) rfl λr hr4 e6 w5=>?_;have hA6:=lof_b l id
 (try rw[<- hr4] at hA6)
 refine kA 12 ?_;refine cD e6 (λp9 e10=>?_) (λp12 e13=>?_)
 . refine kB 10 [] λ_=>?_;subst e10;exact qr2
 have hc14:=getG (xs:=l.items) (k:=(r).toNat) (by omega);have hz_hc14:=(hl2 (gt l.items ((r).toNat)) (List.mem_of_getElem? hc14)).1;refine kA 5 ?_;refine q1 (qidx G_ (r).toNat rfl rfl (by omega) hc14 rfl rfl rfl rfl) rfl λw15=>kA 6 ?_;refine cE e13 (λh16 e18=>?_) (λh16 e21=>?_)
 . have h17:=E7_ h16;refine kB 10 [] λ_=>?_;subst e18;exact qr2
 have h20:=Eu_ h16;refine kA 7 ?_;refine hinl [] G_ func187 rfl ntmps187 cb187 rfl rfl rfl rfl λHc22 hHc22=>?_;refine kB 10 [2,3] λB24=>?_;refine ef (ecallo 4 (O9_ _) rfl rfl λu27 w26=>?_);refine kA 8 ?_;refine so_osl (t:=12) 4 rfl rfl<|q1 (eidx (r).toNat G_ rfl rfl rfl rfl rfl rfl rfl (by omega) (by omega)) rfl λw28=>hinl [12] G_ func238 rfl ntmps238 cb238 rfl rfl rfl rfl λHc29 hHc29=>kA 4 ?_;refine q1 (efld rfl fl68_1) rfl λw30=>ef (est1 (i:=4) ((r).toNat) 7 (⟨(gt l.items ((r).toNat)).Ab_,false,(gt l.items ((r).toNat)).again⟩:M_) G_ rfl rfl rfl rfl rfl rfl (by omega) rfl (by decide) (λ_ h=>by obtain rfl :=Option.some.inj (h.symm.trans hc14);rfl) ?_);have hset30:(l.items.set ((r).toNat) (⟨(gt l.items ((r).toNat)).Ab_,false,(gt l.items ((r).toNat)).again⟩:M_)).length=l.items.length:=List.length_set ..;refine kA 1 ?_;refine q1 (efld rfl fl68_2) rfl λw32=>?_;have hc33:=getG (xs:=(l.items.set ((r).toNat) (⟨(gt l.items ((r).toNat)).Ab_,false,(gt l.items ((r).toNat)).again⟩:M_))) (k:=(r).toNat) (by omega);have hz_hc33:((gt (l.items.set ((r).toNat) (⟨(gt l.items ((r).toNat)).Ab_,false,(gt l.items ((r).toNat)).again⟩:M_)) ((r).toNat))).Ab_.head.length<=8:=by rw[Xz_ (by (try simp only[List.length_set]);omega)];(try rw[Xz_ (by omega)]);exact (hl2 _ (List.mem_of_getElem? (getG (by omega)))).1
 refine ef (est1 (i:=4) ((r).toNat) 8 (⟨(gt (l.items.set ((r).toNat) (⟨(gt l.items ((r).toNat)).Ab_,false,(gt l.items ((r).toNat)).again⟩:M_)) ((r).toNat)).Ab_,(gt (l.items.set ((r).toNat) (⟨(gt l.items ((r).toNat)).Ab_,false,(gt l.items ((r).toNat)).again⟩:M_)) ((r).toNat)).Ui_,true⟩:M_) G_ rfl rfl rfl rfl rfl rfl (by omega) rfl (by decide) (λ_ h=>by obtain rfl :=Option.some.inj (h.symm.trans hc33);rfl) ?_);have hset33:((l.items.set ((r).toNat) (⟨(gt l.items ((r).toNat)).Ab_,false,(gt l.items ((r).toNat)).again⟩:M_)).set ((r).toNat) (⟨(gt (l.items.set ((r).toNat) (⟨(gt l.items ((r).toNat)).Ab_,false,(gt l.items ((r).toNat)).again⟩:M_)) ((r).toNat)).Ab_,(gt (l.items.set ((r).toNat) (⟨(gt l.items ((r).toNat)).Ab_,false,(gt l.items ((r).toNat)).again⟩:M_)) ((r).toNat)).Ui_,true⟩:M_)).length=(l.items.set ((r).toNat) (⟨(gt l.items ((r).toNat)).Ab_,false,(gt l.items ((r).toNat)).again⟩:M_)).length:=List.length_set ..;refine kA 1 ?_;refine inln rfl rfl rfl ⟨rfl,trivial⟩ ?_;refine kA 5 ?_;refine so_osl (t:=16) 4 rfl rfl<|so_osl (t:=10) 4 rfl rfl ?_;refine so_osl (t:=7) 4 rfl rfl<|give 4 rfl ?_;refine kB 5 [] λ_=>?_;refine inlr rfl rfl rfl trivial<|kB 5 [] λ_=>?_;subst e21;exact qr2
theorem Qz_ (l:Ae_) (hl:LnOk l:=by assumption):Fn prog gb 110 [.agg (Ae_.pc l)] (.agg (Ae_.pc (Eq_ l))):=by
 refine kG func110 ntmps110 λw N H hG=>?_;have hl0:=hl;obtain⟨hl1,hl2,hl3⟩:=hl0;have e0:=Eq_.eq_1 l;refine kB 16 [0,1] λB2=>?_;refine loop (ι:=Nat×Ae_) [1,2,6,7] [1] (λ⟨k,x⟩=>[(8, .int .i64 (k:Int))]) (λ⟨k,x⟩=>[(0, .box (B2 0) 165 (Ae_.pc x))]) (λ⟨k,x⟩=>k<=l.items.length/\Eq_ l=Ca_ (l.items.drop k) k x/\x.items.length=l.items.length) (λ⟨k,x⟩=>l.items.length-k) ⟨0,l⟩ ⟨rfl,trivial⟩ ⟨rfl,trivial⟩ ?_ ?_
 . exact⟨Nat.zero_le _,e0,rfl⟩
 rintro⟨k,x⟩ ⟨hp4_1,hp4_2,hp4_3⟩;refine kA 6 ?_;refine cn rfl (λp6=>?_) λp31=>?_
 . have e7:=C5_ (f:=λzz=>Ca_ zz k x) hp4_2 (Gs_ (by omega)) (Ca_.eq_2 _ _ _ _);have hc8:=getG (xs:=l.items) (k:=k) (by omega);refine kA 7 ?_;refine kI k hc8 λw9=>?_;refine kB 12 [2] λB11=>?_;refine cE e7 (λh12 e13=>?_) (λh12 e30=>?_)
   . refine kA 3 ?_;refine hinl [] G_ func187 rfl ntmps187 cb187 rfl rfl rfl rfl λHc14 hHc14=>?_;refine kB 10 [3,4] λB16=>?_;refine ef (ecallo 5 (O9_ _) rfl rfl λu19 w18=>?_);refine kA 8 ?_;refine so_osl (t:=12) 5 rfl rfl<|q1 (eidx k G_ rfl rfl rfl rfl rfl rfl rfl rfl (by omega)) rfl λw20=>hinl [12] G_ func188 rfl ntmps188 cb188 rfl rfl rfl rfl λHc21 hHc21=>kA 4 ?_;refine q1 (efld rfl fl68_1) rfl λw22=>?_;have hc23:=getG (xs:=x.items) (k:=k) (by omega);refine ef (est1 (i:=5) k 7 (⟨(gt x.items k).Ab_,false,(gt x.items k).again⟩:M_) G_ rfl rfl rfl rfl rfl rfl (by omega) rfl (by decide) (λ_ h=>by obtain rfl :=Option.some.inj (h.symm.trans hc23);rfl) ?_);have hset23:(x.items.set k (⟨(gt x.items k).Ab_,false,(gt x.items k).again⟩:M_)).length=x.items.length:=List.length_set ..;refine kA 1 ?_;refine q1 (efld rfl fl68_2) rfl λw25=>?_;have hc26:=getG (xs:=(x.items.set k (⟨(gt x.items k).Ab_,false,(gt x.items k).again⟩:M_))) (k:=k) (by omega);refine ef (est1 (i:=5) k 8 (⟨(gt (x.items.set k (⟨(gt x.items k).Ab_,false,(gt x.items k).again⟩:M_)) k).Ab_,(gt (x.items.set k (⟨(gt x.items k).Ab_,false,(gt x.items k).again⟩:M_)) k).Ui_,true⟩:M_) G_ rfl rfl rfl rfl rfl rfl (by omega) rfl (by decide) (λ_ h=>by obtain rfl :=Option.some.inj (h.symm.trans hc26);rfl) ?_);have hset26:((x.items.set k (⟨(gt x.items k).Ab_,false,(gt x.items k).again⟩:M_)).set k (⟨(gt (x.items.set k (⟨(gt x.items k).Ab_,false,(gt x.items k).again⟩:M_)) k).Ab_,(gt (x.items.set k (⟨(gt x.items k).Ab_,false,(gt x.items k).again⟩:M_)) k).Ui_,true⟩:M_)).length=(x.items.set k (⟨(gt x.items k).Ab_,false,(gt x.items k).again⟩:M_)).length:=List.length_set ..;refine kA 1 ?_;refine inln rfl rfl rfl ⟨rfl,trivial⟩ ?_;refine kA 5 ?_;refine so_osl (t:=16) 5 rfl rfl<|so_osl (t:=10) 5 rfl rfl ?_;refine so_osl (t:=7) 5 rfl rfl<|give 5 rfl ?_;refine kB 5 [] λ_=>?_;refine inlr rfl rfl rfl trivial<|kD 8 [] λ_=>?_;refine next ⟨(k+1),(⟨((x.items.set k (⟨(gt x.items k).Ab_,false,(gt x.items k).again⟩:M_)).set k (⟨(gt (x.items.set k (⟨(gt x.items k).Ab_,false,(gt x.items k).again⟩:M_)) k).Ab_,(gt (x.items.set k (⟨(gt x.items k).Ab_,false,(gt x.items k).again⟩:M_)) k).Ui_,true⟩:M_))⟩:Ae_)⟩ rfl rfl ⟨rfl,trivial⟩ ⟨rfl,trivial⟩ ?_ ?_
     . (try simp only[]);omega
     exact⟨by (try simp only[]);omega,e13,by (try simp only[List.length_set]);omega⟩
   refine kC 7 ?_;refine next ⟨(k+1),x⟩ rfl rfl ⟨rfl,trivial⟩ ⟨rfl,trivial⟩ ?_ ?_
   . (try simp only[]);omega
   exact⟨by (try simp only[]);omega,e30,by (try simp only[List.length_set]);omega⟩
 have e32:=C5_ (f:=λzz=>Ca_ zz k x) hp4_2 (Gy_ (by omega)) (Ca_.eq_1 _ _);refine kB 12 [] λ_=>?_;exact rt1 rfl rfl (Am_ (λr:Ae_=> .agg (Ae_.pc r)) e32 (ple rfl))
theorem Lt_ (l:Ae_) (hl:LnOk l:=by assumption):Fn prog gb 230 [.agg (Ae_.pc l)] (.tup [.agg (Mail.pc ((Cr_ l).1)), .bool ((Cr_ l).2)]):=by
 refine kG func230 ntmps230 λw N H hG=>?_;have hl0:=hl;obtain⟨hl1,hl2,hl3⟩:=hl0;have e0:=Cr_.eq_1 l;refine kB 8 [0,1] λB2=>?_;refine aN [1,2,3,4,5,6,7] 8 mixd<|kE [0,1] 6 ?_;refine vC 2 rfl (Ml_ _) rfl λw4=>?_;have hB4:=Ry_ l;refine vE 3 rfl (eC (Mk_ _ _) rfl ?_);generalize hr7:C7_ l (Ci_ l)=r;intro w6;have e8:=e0.trans (C3_ hr7.symm);refine kE [4,5] 2 ?_;refine vT 6 rfl (sA G_ ?_);refine kE [7] 0 ?_;refine vD<|kA 2 ?_;exact rt2 rfl rfl (Am_ (λr:Mail×Bool=> .tup [.agg (Mail.pc r.1), .bool r.2]) e8 (ple rfl))
theorem Qx_ (l:Ae_) (tick:Int) (hl:LnOk l:=by assumption):Fn prog gb 181 [.agg (Ae_.pc l), .int .u64 tick] (.tup [.agg (Mail.pc ((Fn_ l tick).1)), .bool ((Fn_ l tick).2)]):=by
 refine kG func181 ntmps181 λw N H hG=>?_;have hl0:=hl;obtain⟨hl1,hl2,hl3⟩:=hl0;have e0:=Fn_.eq_1 l tick;refine kB 9 [0,1,2] λB2=>?_;refine freezec (i:=1) (t:=3) rfl rfl rfl rfl ?_;refine aN [2,1,3,4,5,6,7] 9 mixd<|kE [0,1,2] 6 ?_;refine vC 3 rfl (P6_ _ _) rfl λw5=>?_;have hB5:=llate_b l tick;refine vE 4 rfl (eC (Mk_ _ _) rfl ?_);generalize hr8:C7_ l (Fr_ l tick)=r;intro w7;have e9:=e0.trans (C3_ hr8.symm);refine kE [5,6] 2 ?_;refine vT 7 rfl (sA G_ ?_);refine kE [8] 0 ?_;refine vD<|kA 2 ?_;exact rt2 rfl rfl (Am_ (λr:Mail×Bool=> .tup [.agg (Mail.pc r.1), .bool r.2]) e9 (ple rfl))
theorem Rl_ (l:Ae_) (hl:LnOk l:=by assumption):Fn prog gb 128 [.agg (Ae_.pc l)] (.sl M_.pc (Et_ l)):=by
 refine kG func128 ntmps128 λw N H hG=>?_;have hl0:=hl;obtain⟨hl1,hl2,hl3⟩:=hl0;have e0:=Et_.eq_1 l;refine kB 21 [0] λB2=>?_;refine sw_own (t:=3) (k:=9) (e:=68) 1 M_.pc rfl rfl ?_;refine loop (ι:=Nat×(List M_)×Value) [2,7,8] [0] (λ⟨k,out,u_out⟩=>[(9, .int .i64 (k:Int)),(3, .osl 1)]) (λ⟨k,out,u_out⟩=>[(1, .arr u_out 9 68 M_.pc out)]) (λ⟨k,out,u_out⟩=>k<=l.items.length/\Et_ l=Dc_ (l.items.drop k) out/\out.length<=k) (λ⟨k,out,u_out⟩=>l.items.length-k) ⟨0,[],(.slice none 0 0)⟩ ⟨rfl,rfl,trivial⟩ ⟨rfl,trivial⟩ ?_ ?_
 . exact⟨Nat.zero_le _,e0,(by first|omega|(simp;done)|(simp;omega))⟩
 rintro⟨k,out,u_out⟩ ⟨hp3_1,hp3_2,hp3_3⟩;refine kA 6 ?_;refine cn rfl (λp5=>?_) λp16=>?_
 . have e6:=C5_ (f:=λzz=>Dc_ zz out) hp3_2 (Gs_ (by omega)) (Dc_.eq_2 _ _ _);have hc7:=getG (xs:=l.items) (k:=k) (by omega);have hz_hc7:=(hl2 (gt l.items k) (List.mem_of_getElem? hc7)).1;refine kA 6 ?_;refine kI k hc7 λw8=>?_;refine kB 8 [2] λB10=>?_;refine cV e6 R3_ (Ia_ _) rfl λr hr11 e13 w12=>ef (bsl 3 M_.pc [r] G_ rfl rfl rfl rfl rfl (λ_=>rfl) rfl (by decide) (by decide) rfl λu14=>?_);refine ef (app G_ [r] rfl rfl rfl rfl rfl rfl rfl rfl rfl (src_o rfl rfl) (by first|omega|(simp;omega)) rfl λu15=>?_);refine kC 8 ?_;refine next ⟨(k+1),(out++[r]),(u15)⟩ rfl rfl ⟨rfl,rfl,trivial⟩ ⟨rfl,trivial⟩ ?_ ?_
   . (try simp only[]);omega
   exact⟨by (try simp only[]);omega,e13,(by (try simp only[List.length_append,List.length_cons,List.length_nil]);omega)⟩
 have e17:=C5_ (f:=λzz=>Dc_ zz out) hp3_2 (Gy_ (by omega)) (Dc_.eq_1 _);refine kA 11 ?_;refine givec 1 rfl<|kA 1 ?_;exact rt1 rfl rfl (Am_ (λr:(List M_)=> .sl M_.pc r) e17 (ple rfl))
theorem I4_ (x:Bc_) (m:Mail) (hx:RiOk x:=by assumption) (hh:m.head.length<=1000000:=by omega):Fn prog gb 233 [.agg (Bc_.pc x), .agg (Mail.pc m)] (.tup [.agg (Bc_.pc ((Cc_ x m).1)), .int .i64 ((Cc_ x m).2)]):=by
 refine kG func233 ntmps233 λw N H hG=>?_;have hx0:=hx;obtain⟨hx1,hx2⟩:=hx0;have e0:=Cc_.eq_1 x m;generalize Cc_ x m=z at e0 ⊢;refine kB 12 [0,1,2] λB2=>?_;refine call (J2_ _) rfl rfl λw5=>?_;have :=Nz_ m;have hmo5:=λh=>Hs_ (m:=m) h;refine kA 9 ?_;refine cN e0 (λp8 e9=>?_) (λp12 e13=>?_)
 . refine kB 10 [] λ_=>?_;subst e9;exact qr2
 refine kA 10 ?_;refine cD e13 (λp15 e16=>?_) (λp18 e19=>?_)
 . refine kB 9 [] λ_=>?_;subst e16;exact qr2
 refine kA 3 ?_;refine aN [3,4,5,6,7,8] 8 mixd<|kE [0,1,2] 5 ?_;refine vE 3 rfl (eC (G3_ _) rfl ?_);generalize hr21:J_ m=r;intro w20;have e22:=e19.trans (C3_ hr21.symm);have hr21:=hr21.symm;refine vE 4 rfl (bsl 3 Mail.pc [r] G_ rfl rfl rfl rfl rfl (λ_=>rfl) rfl (by decide) (by decide) rfl λu23=>?_);refine vE 5 rfl (Uf_ 3 rfl (bsl 3 (slc Mail.pc) [x.kept,[r]] G_ rfl rfl rfl rfl rfl (λ_=>rfl) rfl (by decide) (by decide) rfl λu24=>?_));refine vE 6 rfl (Uf_ 3 rfl (eweak (eC (concat_Mail _) rfl λw25=>?_)));have hfl25:([x.kept,[r]].flatten).length=x.kept.length+1:=by simp only[List.flatten_cons,List.flatten_nil,List.length_append,List.length_nil,List.length_cons,Nat.add_zero,Nat.zero_add]
 refine kE [7] 0 ?_;refine vD<|kA 2 ?_;refine aN [2,3,4,5,6,7,8] 12 mixd ?_;have :=Hg_ (x.total+1);refine kF [0,1,2,3,4,5,6,7] 4 ?_;refine vq 8 (lslo G_ ((max 0 ((([x.kept,[r]].flatten).length:Int)-16))).toNat rfl rfl rfl rfl rfl (λ_=>rfl) (by (try dsimp only);omega) (by (try dsimp only);omega)) rfl (by kernel_rfl) rfl λw27=>?_;refine kE [9] 2 ?_;refine vT 10 rfl (sA G_ ?_);refine kE [11] 0 ?_;refine vD<|kA 2 ?_;subst e22;exact qr2
theorem L1_ (x:Bc_) (number:Int) (hx:RiOk x:=by assumption) (hk:x.total=0\/0<x.kept.length:=by first|assumption|omega|decide):Fn prog gb 310 [.agg (Bc_.pc x), .int .u64 number] (.tup [.int .u64 ((Go_ x number).1), .agg (Mail.pc ((Go_ x number).2.1)), .bool ((Go_ x number).2.2)]):=by
 refine kG func310 ntmps310 λw N H hG=>?_;have x_total_r:0<=x.total/\x.total<=18446744073709551615:=w.1.1;have x_kept_l:x.kept.length<=140737488355328:=w.1.2.1.1;have number_r:0<=number/\number<=18446744073709551615:=w.2.1;have hx0:=hx;obtain⟨hx1,hx2⟩:=hx0;have e0:=Go_.eq_1 x number;generalize Go_ x number=z at e0 ⊢;refine kB 17 [0,1] λB2=>?_;refine cD e0 (λp5 e6=>?_) (λp8 e9=>?_)
 . refine kB 10 [] λ_=>?_;subst e6;exact qr3
 refine kA 9 ?_;refine q1 (qconv G_ rfl rfl rfl rfl (Lj_ (by omega))) rfl λw10=>?_;have :=Hg_ (x.total-(x.kept.length:Int));have :=Hg_ ((IntKind.wrap .u64 (x.total-(x.kept.length:Int)))+1);have :=Hg_ (number+1);have :=Hg_ ((max (IntKind.wrap .u64 ((IntKind.wrap .u64 (x.total-(x.kept.length:Int)))+1)) (IntKind.wrap .u64 (number+1)))-(IntKind.wrap .u64 ((IntKind.wrap .u64 (x.total-(x.kept.length:Int)))+1)));have hc11:=getG (xs:=x.kept) (k:=((IntKind.wrap .u64 ((max (IntKind.wrap .u64 ((IntKind.wrap .u64 (x.total-(x.kept.length:Int)))+1)) (IntKind.wrap .u64 (number+1)))-(IntKind.wrap .u64 ((IntKind.wrap .u64 (x.total-(x.kept.length:Int)))+1))))).toNat) (by simp only[IntKind.wrap_u64] at *;omega);have hz_hc11:=hx2 (gt x.kept (((IntKind.wrap .u64 ((max (IntKind.wrap .u64 ((IntKind.wrap .u64 (x.total-(x.kept.length:Int)))+1)) (IntKind.wrap .u64 (number+1)))-(IntKind.wrap .u64 ((IntKind.wrap .u64 (x.total-(x.kept.length:Int)))+1))))).toNat)) (List.mem_of_getElem? hc11);refine kA 22 ?_;refine q1 (qidx G_ ((IntKind.wrap .u64 ((max (IntKind.wrap .u64 ((IntKind.wrap .u64 (x.total-(x.kept.length:Int)))+1)) (IntKind.wrap .u64 (number+1)))-(IntKind.wrap .u64 ((IntKind.wrap .u64 (x.total-(x.kept.length:Int)))+1))))).toNat rfl rfl (by simp only[IntKind.wrap_u64] at *;omega) hc11 rfl rfl rfl rfl) rfl λw12=>?_;refine kA 1 ?_;refine cV e9 R1_ (G3_ _) rfl λr hr13 e15 w14=>kB 6 [] λ_=>?_;subst e15;exact qr3
theorem Jq_ (x:Bc_):Fn prog gb 131 [.agg (Bc_.pc x)] (.int .u64 (Dr_ x)):=by
 refine kG func131 ntmps131 λw N H hG=>?_;have e0:=Dr_.eq_1 x;refine kB 14 [0] λB2=>?_;exact rt1 rfl rfl (Am_ (λr:Int=> .int .u64 r) e0 (ple rfl))
theorem J4_ (x:Bc_):Fn prog gb 146 [.agg (Bc_.pc x)] (.int .i64 (Dl_ x)):=by
 refine kG func146 ntmps146 λw N H hG=>?_;have x_kept_l:x.kept.length<=140737488355328:=w.1.2.1.1;have e0:=Dl_.eq_1 x;refine kB 21 [0] λB2=>?_;refine loop (ι:=Nat×Int) [2,7,8] [0] (λ⟨k,n⟩=>[(9, .int .i64 (k:Int)),(3, .int .i64 n)]) (λ⟨k,n⟩=>[]) (λ⟨k,n⟩=>k<=x.kept.length/\Dl_ x=Df_ (x.kept.drop k) n/\0<=n/\n<=3000*k) (λ⟨k,n⟩=>x.kept.length-k) ⟨0,0⟩ ⟨rfl,rfl,trivial⟩ trivial ?_ ?_
 . exact⟨Nat.zero_le _,e0,(by first|omega|(simp;done)|(simp;omega))⟩
 rintro⟨k,n⟩ ⟨hp3_1,hp3_2,hp3_3⟩;refine kA 6 ?_;refine cn rfl (λp5=>?_) λp15=>?_
 . have e6:=C5_ (f:=λzz=>Df_ zz n) hp3_2 (Gs_ (by omega)) (Df_.eq_2 _ _ _);have hc7:=getG (xs:=x.kept) (k:=k) (by omega);refine kA 6 ?_;refine kI k hc7 λw8=>?_;refine kB 8 [1] λB10=>?_;refine cV e6 R0_ (Lu_ _) rfl λr hr11 e13 w12=>?_;have hA13:=Ri_ (gt x.kept k)
   (try rw[<- hr11] at hA13)
   refine kC 9 ?_;refine next ⟨(k+1),(n+r)⟩ rfl rfl ⟨rfl,rfl,trivial⟩ trivial ?_ ?_
   . (try simp only[]);omega
   exact⟨by (try simp only[]);omega,e13,by (try simp only[]);omega⟩
 have e16:=C5_ (f:=λzz=>Df_ zz n) hp3_2 (Gy_ (by omega)) (Df_.eq_1 _);refine kA 12 ?_;exact rt1 rfl rfl (Am_ (λr:Int=> .int .i64 r) e16 (ple rfl))
theorem Rp_ (x:Bc_) (hx:RiOk x:=by assumption):Fn prog gb 151 [.agg (Bc_.pc x)] (.sl Mail.pc (Iq_ x)):=by
 refine kG func151 ntmps151 λw N H hG=>?_;have hx0:=hx;obtain⟨hx1,hx2⟩:=hx0;have e0:=Iq_.eq_1 x;refine kB 21 [0] λB2=>?_;refine sw_own (t:=3) (k:=7) (e:=64) 1 Mail.pc rfl rfl ?_;refine loop (ι:=Nat×(List Mail)×Value) [2,7,8] [0] (λ⟨k,out,u_out⟩=>[(9, .int .i64 (k:Int)),(3, .osl 1)]) (λ⟨k,out,u_out⟩=>[(1, .arr u_out 7 64 Mail.pc out)]) (λ⟨k,out,u_out⟩=>k<=x.kept.length/\Iq_ x=F1_ (x.kept.drop k) out/\out.length<=k) (λ⟨k,out,u_out⟩=>x.kept.length-k) ⟨0,[],(.slice none 0 0)⟩ ⟨rfl,rfl,trivial⟩ ⟨rfl,trivial⟩ ?_ ?_
 . exact⟨Nat.zero_le _,e0,(by first|omega|(simp;done)|(simp;omega))⟩
 rintro⟨k,out,u_out⟩ ⟨hp3_1,hp3_2,hp3_3⟩;refine kA 6 ?_;refine cn rfl (λp5=>?_) λp16=>?_
 . have e6:=C5_ (f:=λzz=>F1_ zz out) hp3_2 (Gs_ (by omega)) (F1_.eq_2 _ _ _);have hc7:=getG (xs:=x.kept) (k:=k) (by omega);have hz_hc7:=hx2 (gt x.kept k) (List.mem_of_getElem? hc7);refine kA 6 ?_;refine kI k hc7 λw8=>?_;refine kB 8 [2] λB10=>?_;refine cV e6 R1_ (G3_ _) rfl λr hr11 e13 w12=>ef (bsl 3 Mail.pc [r] G_ rfl rfl rfl rfl rfl (λ_=>rfl) rfl (by decide) (by decide) rfl λu14=>?_);refine ef (app G_ [r] rfl rfl rfl rfl rfl rfl rfl rfl rfl (src_o rfl rfl) (by first|omega|(simp;omega)) rfl λu15=>?_);refine kC 8 ?_;refine next ⟨(k+1),(out++[r]),(u15)⟩ rfl rfl ⟨rfl,rfl,trivial⟩ ⟨rfl,trivial⟩ ?_ ?_
   . (try simp only[]);omega
   exact⟨by (try simp only[]);omega,e13,(by (try simp only[List.length_append,List.length_cons,List.length_nil]);omega)⟩
 have e17:=C5_ (f:=λzz=>F1_ zz out) hp3_2 (Gy_ (by omega)) (F1_.eq_1 _);refine kA 11 ?_;refine givec 1 rfl<|kA 1 ?_;exact rt1 rfl rfl (Am_ (λr:(List Mail)=> .sl Mail.pc r) e17 (ple rfl))
theorem N6_ (base:Int) (bytes:Int):Fn prog gb 32 [.int .u64 base, .int .i64 bytes] (.agg (F_.pc (B4_ base bytes))):=by
 refine kG func32 ntmps32 λw N H hG=>?_;have e0:=B4_.eq_1 base bytes;refine kB 15 [0] λB2=>?_;exact rt1 rfl rfl (Am_ (λr:F_=> .agg (F_.pc r)) e0 (ple rfl))
theorem Ou_ (q:Q_):Fn prog gb 167 [.agg (Q_.pc q)] (.int .i64 (Bj_ q)):=by
 refine kG func167 ntmps167 λw N H hG=>?_;have e0:=Bj_.eq_1 q;generalize Bj_ q=z at e0 ⊢;refine kB 11 [0] λB2=>?_;refine call (Ey_ _) rfl rfl λw3=>kA 9 ?_;refine cN e0 (λp6 e7=>?_) (λp9 e10=>?_)
 . refine kA 8 ?_;subst e7;exact qr1
 refine kC 17 ?_;refine cE e10 (λh11 e12=>?_) (λh11 e17=>?_)
 . refine kA 8 ?_;subst e12;exact qr1
 have h13:=orl h11;have p14:=df h13;have h15:=orr h11;have p16:=df h15;refine kA 8 ?_;refine cN e17 (λp20 e21=>?_) (λp24 e25=>?_)
 . refine kA 4 ?_;refine call (Ey_ _) rfl rfl λw22=>kA 6 ?_;subst e21;exact qr1
 refine kA 9 ?_;subst e25;exact qr1
theorem Zz_ (x:Gi_) (x1:Bs):Fn prog gb 226 [.agg (Gi_.pc x), .el [.str x1] 0] (.bool (N7_ x x1)):=by
 refine kG func226 ntmps226 λw N H hG=>?_;have e0:=N7_.eq_1 x x1;refine kB 17 [0] λB2=>?_;exact rt1 rfl rfl (Am_ (λr:Bool=> .bool r) e0 (ple rfl))
theorem Em_ (s:F_) (name:Bs):Fn prog gb 168 [.agg (F_.pc s), .str name] (.int .i64 (I_ s name)):=by
 refine kG func168 ntmps168 λw N H hG=>?_;have e0:=I_.eq_1 s name;refine kB 11 [0,1] λB2=>?_;refine freeze (i:=1) (t:=3) rfl rfl rfl rfl<|kA 1 ?_;refine call (idxF_row _ _ _ _ (λz_4:Gi_=>(N7_ z_4 name)) (λz_4=>Zz_ z_4 name)) rfl rfl λw5=>?_;have hix5:=H8_ (λz_4:Gi_=>(N7_ z_4 name)) s.rows;refine kA 4 ?_;exact rt1 rfl rfl (Am_ (λr:Int=> .int .i64 r) e0 (ple rfl))
theorem fl167_1:Fld prog 167 1 4:=λb o w=>by kernel_rfl
theorem sz40:Sz prog 40 2:=λw=>by kernel_rfl
theorem Jc_ (s:F_) (q:Q_):Fn prog gb 96 [.agg (F_.pc s), .agg (Q_.pc q)] (.tup [.agg (F_.pc ((Ao_ s q).1)), .int .i64 ((Ao_ s q).2)]):=by
 refine kG func96 ntmps96 λw N H hG=>?_;have e0:=Ao_.eq_1 s q;generalize Ao_ s q=z at e0 ⊢;refine kB 12 [0,1,2] λB2=>?_;refine cV e0 R0_ (Ou_ _) rfl λr hr5 e7 w6=>kA 9 ?_;refine cN e7 (λp10 e11=>?_) (λp14 e15=>?_)
 . refine kB 10 [] λ_=>?_;subst e11;exact qr2
 refine kA 8 ?_;refine cV e15 R0_ (Em_ _ _) rfl λr1 hr16 e18 w17=>?_;have hA18:=at_b s q.name
 (try rw[<- hr16] at hA18)
 refine kA 5 ?_;refine aN [3,4,5,6,7,8] 13 mixd<|kF [0,1,2,3,4,5] 7 ?_;refine vqg 6 [23,24] rfl (by kernel_rfl) rfl rfl (λhc=>qidx G_ (r1).toNat rfl rfl (by first|omega|(simp only[gOf,bl2] at *;omega)) (getG (by first|omega|(simp only[gOf,bl2] at *;omega))) rfl rfl rfl rfl) ⟨(λhc=>hc),(λhc=>hc),trivial⟩ rfl λ_=>?_;refine kF [7,8,9] 3 ?_;refine vqg 10 [27,28] rfl (by kernel_rfl) rfl rfl (λhc=>saeq rfl rfl eqg59 (veq59 ((gt s.rows ((r1).toNat)).q) q)) ⟨(λhc=>hc),(λhc=>hc),trivial⟩ rfl λ_=>kF [11,12] 0 ?_;refine vD<|kA 1 ?_;refine cE e18 (λh20 e25=>?_) (λh20 e27=>?_)
 . have h21:=bl h20;have p22:=dt h21;have h23:=br h20;have p24:=dt h23;refine kB 10 [] λ_=>?_;subst e25;exact qr2
 refine kA 7 ?_;refine cD e27 (λp29 e30=>?_) (λp32 e33=>?_)
 . refine kB 10 [] λ_=>?_;subst e30;exact qr2
 refine kA 9 ?_;refine cD e33 (λp35 e36=>?_) (λp38 e39=>?_)
 . refine kB 10 [] λ_=>?_;subst e36;exact qr2
 refine kA 9 ?_;refine ef (bsl 3 Gi_.pc [(⟨q,(⟨[]⟩:Ae_)⟩:Gi_)] G_ rfl rfl rfl rfl rfl (λ_=>rfl) rfl (by decide) (by decide) rfl λu40=>?_);refine give 3 rfl<|ef (bsl 3 (slc Gi_.pc) [s.rows,[(⟨q,(⟨[]⟩:Ae_)⟩:Gi_)]] G_ rfl rfl rfl rfl rfl (λ_=>rfl) rfl (by decide) (by decide) rfl λu41=>?_);refine give 3 rfl<|call (Uw_ _) rfl rfl λw42=>?_;have hfl42:([s.rows,[(⟨q,(⟨[]⟩:Ae_)⟩:Gi_)]].flatten).length=s.rows.length+1:=by simp only[List.flatten_cons,List.flatten_nil,List.length_append,List.length_nil,List.length_cons,Nat.add_zero,Nat.zero_add]
 refine kB 12 [] λ_=>?_;subst e39;exact qr2
theorem Pb_ (s:F_) (name:Bs) (hs:s.rows.length<=1000:=by first|omega|(simp;omega)|decide +kernel):Fn prog gb 97 [.agg (F_.pc s), .str name] (.tup [.agg (F_.pc ((A6_ s name).1)), .int .i64 ((A6_ s name).2)]):=by
 refine kG func97 ntmps97 λw N H hG=>?_;have e0:=A6_.eq_1 s name;generalize A6_ s name=z at e0 ⊢;refine kB 11 [0,1] λB2=>?_;refine cV e0 R0_ (Em_ _ _) rfl λr hr4 e6 w5=>?_;have hA6:=at_b s name
 (try rw[<- hr4] at hA6)
 refine kA 10 ?_;refine cD e6 (λp9 e10=>?_) (λp12 e13=>?_)
 . refine kB 9 [] λ_=>?_;subst e10;exact qr2
 refine kA 3 ?_;refine aN [2,3,4,5,6,7] 13 mixd<|kE [0,1,2] 10 ?_;refine vq 3 (lshi G_ (r).toNat rfl rfl rfl rfl rfl (λ_=>rfl) (by omega) (by omega)) rfl (by kernel_rfl) rfl λw14=>kF [4,5,6,7] 5 ?_;refine vq 8 (lslo G_ ((r+1)).toNat rfl rfl rfl rfl rfl (λ_=>rfl) (by omega) (by omega)) rfl (by kernel_rfl) rfl λw15=>vE 9 rfl (bsl 2 (slc Gi_.pc) [(s.rows.take (r).toNat),(s.rows.drop ((r+1)).toNat)] G_ rfl rfl rfl rfl rfl (λ_=>rfl) rfl (by decide) (by decide) rfl λu16=>?_);refine vE 10 rfl (Uf_ 2 rfl (eweak (eC (Uw_ _) rfl λw17=>?_)));have hfl17:([(s.rows.take (r).toNat),(s.rows.drop ((r+1)).toNat)].flatten).length=(s.rows.take (r).toNat).length+(s.rows.drop ((r+1)).toNat).length:=by simp only[List.flatten_cons,List.flatten_nil,List.length_append,List.length_nil,List.length_cons,Nat.add_zero,Nat.zero_add]
 refine kE [11] 1 ?_;refine vT 12 rfl (sO G_ ?_);refine vD<|kB 9 [] λ_=>?_;subst e13;exact qr2
theorem F5_ (s:F_) (name:Bs):Fn prog gb 102 [.agg (F_.pc s), .str name] (.tup [.agg (Q_.pc ((Ah_ s name).1)), .bool ((Ah_ s name).2)]):=by
 refine kG func102 ntmps102 λw N H hG=>?_;have e0:=Ah_.eq_1 s name;generalize Ah_ s name=z at e0 ⊢;refine kB 11 [0,1] λB2=>?_;refine cV e0 R0_ (Em_ _ _) rfl λr hr4 e6 w5=>?_;have hA6:=at_b s name
 (try rw[<- hr4] at hA6)
 refine kA 10 ?_;refine cD e6 (λp9 e10=>?_) (λp12 e13=>?_)
 . refine kB 9 [] λ_=>?_;subst e10;exact qr2
 have hc14:=getG (xs:=s.rows) (k:=(r).toNat) (by omega);refine kA 7 ?_;refine q1 (qidx G_ (r).toNat rfl rfl (by omega) hc14 rfl rfl rfl rfl) rfl λw15=>kB 7 [] λ_=>?_;subst e13;exact qr2
theorem Fw_ (s:F_) (hs:s.rows.length<=1000:=by first|omega|(simp;omega)|decide +kernel):Fn prog gb 22 [.agg (F_.pc s)] (.sl Q_.pc (X_ s)):=by
 refine kG func22 ntmps22 λw N H hG=>?_;have e0:=X_.eq_1 s;refine kB 21 [0] λB2=>?_;refine sw_own (t:=3) (k:=4) (e:=59) 1 Q_.pc rfl rfl ?_;refine loop (ι:=Nat×(List Q_)×Value) [2,7,8] [0] (λ⟨k,out,u_out⟩=>[(9, .int .i64 (k:Int)),(3, .osl 1)]) (λ⟨k,out,u_out⟩=>[(1, .arr u_out 4 59 Q_.pc out)]) (λ⟨k,out,u_out⟩=>k<=s.rows.length/\X_ s=Bk_ (s.rows.drop k) out/\out.length<=k) (λ⟨k,out,u_out⟩=>s.rows.length-k) ⟨0,[],(.slice none 0 0)⟩ ⟨rfl,rfl,trivial⟩ ⟨rfl,trivial⟩ ?_ ?_
 . exact⟨Nat.zero_le _,e0,(by first|omega|(simp;done)|(simp;omega))⟩
 rintro⟨k,out,u_out⟩ ⟨hp3_1,hp3_2,hp3_3⟩;refine kA 6 ?_;refine cn rfl (λp5=>?_) λp13=>?_
 . have e6:=C5_ (f:=λzz=>Bk_ zz out) hp3_2 (Gs_ (by omega)) (Bk_.eq_2 _ _ _);have hc7:=getG (xs:=s.rows) (k:=k) (by omega);refine kA 6 ?_;refine kI k hc7 λw8=>?_;refine kB 9 [2] λB10=>?_;refine ef (bsl 3 Q_.pc [(gt s.rows k).q] G_ rfl rfl rfl rfl rfl (λ_=>rfl) rfl (by decide) (by decide) rfl λu11=>?_);refine ef (app G_ [(gt s.rows k).q] rfl rfl rfl rfl rfl rfl rfl rfl rfl (src_o rfl rfl) (by first|omega|(simp;omega)) rfl λu12=>?_);refine kC 8 ?_;refine next ⟨(k+1),(out++[(gt s.rows k).q]),(u12)⟩ rfl rfl ⟨rfl,rfl,trivial⟩ ⟨rfl,trivial⟩ ?_ ?_
   . (try simp only[]);omega
   exact⟨by (try simp only[]);omega,e6,(by (try simp only[List.length_append,List.length_cons,List.length_nil]);omega)⟩
 have e14:=C5_ (f:=λzz=>Bk_ zz out) hp3_2 (Gy_ (by omega)) (Bk_.eq_1 _);refine kA 11 ?_;refine givec 1 rfl<|kA 1 ?_;exact rt1 rfl rfl (Am_ (λr:(List Q_)=> .sl Q_.pc r) e14 (ple rfl))
theorem Pe_ (s:F_) (name:Bs):Fn prog gb 148 [.agg (F_.pc s), .str name] (.agg (Ae_.pc (Gw_ s name))):=by
 refine kG func148 ntmps148 λw N H hG=>?_;have e0:=Gw_.eq_1 s name;generalize Gw_ s name=z at e0 ⊢;refine kB 10 [0,1] λB2=>?_;refine cV e0 R0_ (Em_ _ _) rfl λr hr4 e6 w5=>?_;have hA6:=at_b s name
 (try rw[<- hr4] at hA6)
 refine kA 10 ?_;refine cD e6 (λp9 e10=>?_) (λp12 e13=>?_)
 . refine kB 8 [] λ_=>?_;subst e10;exact qr1
 have hc14:=getG (xs:=s.rows) (k:=(r).toNat) (by omega);refine kA 7 ?_;refine q1 (qidx G_ (r).toNat rfl rfl (by omega) hc14 rfl rfl rfl rfl) rfl λw15=>kB 6 [] λ_=>?_;subst e13;exact qr1
theorem Pf_ (s:F_) (place:Int):Fn prog gb 150 [.agg (F_.pc s), .int .i64 place] (.agg (Bc_.pc (Ff_ s place))):=by
 refine kG func150 ntmps150 λw N H hG=>?_;have e0:=Ff_.eq_1 s place;generalize Ff_ s place=z at e0 ⊢;refine kD 17 [0,1] λB2=>?_;refine cE e0 (λh4 e5=>?_) (λh4 e11=>?_)
 . refine kB 8 [] λ_=>?_;subst e5;exact qr1
 have h7:=orl h4;have p8:=df h7;have h9:=orr h4;have p10:=df h9;refine kA 6 ?_;refine q1 (qaia (place).toNat rfl rfl underlying41 sz40 (by omega) (by omega)) rfl λw12=>ef (Ts_ (sz:=2) (len:=16) (λq=>[.int .u64 ((A16.get s.rises q).total), .sl Mail.pc ((A16.get s.rises q).kept)]) ((place).toNat) 3 2 0 G_ rfl rfl rfl rfl rfl rfl rfl (by omega) (bw16 rfl rfl rfl rfl rfl rfl rfl rfl rfl rfl rfl rfl rfl rfl rfl rfl) (bw16 rfl rfl rfl rfl rfl rfl rfl rfl rfl rfl rfl rfl rfl rfl rfl rfl) rfl λw13=>?_);refine kB 4 [] λ_=>?_;subst e11;exact qr1
theorem Fm_ (s:F_) (k:Int) (l:Ae_) (hs:s.rows.length<=1000:=by first|omega|(simp;omega)|decide +kernel) (hk:0<=k/\k<s.rows.length:=by omega):Fn prog gb 109 [.agg (F_.pc s), .int .i64 k, .agg (Ae_.pc l)] (.agg (F_.pc (Ac_ s k l))):=by
 refine kG func109 ntmps109 λw N H hG=>?_;have e0:=Ac_.eq_1 s k l;refine kB 11 [0,1,2] λB2=>?_;refine ef (ecallo 3 (oclone_row _) rfl rfl λu6 w5=>?_);refine kA 1 ?_;refine so_osl (t:=9) 3 rfl rfl<|ef (Jb_ G_ rfl rfl rfl rfl rfl rfl rfl rfl rfl ?_);refine kA 8 ?_;refine q1 (eidx (k).toNat G_ rfl rfl rfl rfl rfl rfl rfl (by omega) (by omega)) rfl λw7=>q1 (efld rfl fl167_1) rfl λw8=>?_;have hc9:=getG (xs:=s.rows) (k:=(k).toNat) (by omega);refine ef (estA (i:=3) ((k).toNat) 4 (⟨(gt s.rows ((k).toNat)).q,l⟩:Gi_) G_ rfl rfl rfl rfl rfl rfl (by omega) rfl (Nat.le_of_ble_eq_true rfl) (λ_ h=>by obtain rfl :=Option.some.inj (h.symm.trans hc9);rfl) ?_);have hset9:(s.rows.set ((k).toNat) (⟨(gt s.rows ((k).toNat)).q,l⟩:Gi_)).length=s.rows.length:=List.length_set ..;refine kA 4 ?_;refine give 3 rfl<|kB 5 [] λ_=>?_;exact rt1 rfl rfl (Am_ (λr:F_=> .agg (F_.pc r)) e0 (ple rfl))
theorem Jd_ (s:F_) (hs:StkOk s:=by first|assumption|exact StOk.stk (by assumption)):Fn prog gb 72 [.agg (F_.pc s)] (.int .i64 (A0_ s)):=by
 refine kG func72 ntmps72 λw N H hG=>?_;have hs0:=hs;obtain⟨⟨hs1,hs2,hs3⟩,hs4,hs5,hs6⟩:=hs0;have e0:=A0_.eq_1 s;refine kB 21 [0] λB2=>?_;refine loop (ι:=Nat×Int) [1,2,9,10] [0] (λ⟨k,n⟩=>[(11, .int .i64 (k:Int)),(3, .int .i64 n)]) (λ⟨k,n⟩=>[]) (λ⟨k,n⟩=>k<=s.rows.length/\A0_ s=Bs_ s (s.rows.drop k) n/\0<=n/\n<=200000*k) (λ⟨k,n⟩=>s.rows.length-k) ⟨0,0⟩ ⟨rfl,rfl,trivial⟩ trivial ?_ ?_
 . exact⟨Nat.zero_le _,e0,(by first|omega|(simp;done)|(simp;omega))⟩
 rintro⟨k,n⟩ ⟨hp3_1,hp3_2,hp3_3⟩;refine kA 6 ?_;refine cn rfl (λp5=>?_) λp15=>?_
 . have e6:=C5_ (f:=λzz=>Bs_ s zz n) hp3_2 (Gs_ (by omega)) (Bs_.eq_2 _ _ _ _);have hc7:=getG (xs:=s.rows) (k:=k) (by omega);have hz_hc7:=RwsOk.at hs.1 hc7;have hy_hc7:=hz_hc7.1;refine kA 6 ?_;refine kI k hc7 λw8=>?_;refine kB 9 [1] λB10=>?_;refine cV e6 R0_ (Qy_ _) rfl λr hr11 e13 w12=>?_;have hA13:=lsize_r ((gt s.rows k).l)
   (try rw[<- hr11] at hA13)
   refine kC 9 ?_;refine next ⟨(k+1),(n+r)⟩ rfl rfl ⟨rfl,rfl,trivial⟩ trivial ?_ ?_
   . (try simp only[]);omega
   exact⟨by (try simp only[]);omega,e13,by (try simp only[]);omega⟩
 have e16:=C5_ (f:=λzz=>Bs_ s zz n) hp3_2 (Gy_ (by omega)) (Bs_.eq_1 _ _);refine kA 14 ?_;refine loop (ι:=Nat×Int×Nat) [2,22] [0] (λ⟨f,n1,v⟩=>[(3, .int .i64 n1),(23, .int .i64 (v:Int))]) (λ⟨f,n1,v⟩=>[]) (λ⟨f,n1,v⟩=>16-v<f/\A0_ s=C9_ s f n1 v/\0<=n1/\n1<=1600000+48000*v) (λ⟨f,n1,v⟩=>f) ⟨(16-0+1),n,0⟩ ⟨rfl,rfl,trivial⟩ trivial ?_ ?_
 . exact⟨Nat.lt_succ_self _,e16,by (try simp only[]);omega⟩
 rintro⟨f,n1,v⟩ ⟨hp17_1,hp17_2,hp17_3⟩;obtain⟨f1,rfl⟩:∃ q,f=q+1:=⟨f-1,by omega⟩;have e_f1:=hp17_2.trans (C9_.eq_2 _ _ _ _);refine kA 6 ?_;refine cD e_f1 (λp19 e20=>?_) (λp29 e30=>?_)
 . refine kA 6 ?_;refine q1 (qaivA (λq=>[.int .u64 ((A16.get s.rises q).total), .sl Mail.pc ((A16.get s.rises q).kept)]) v G_ rfl rfl underlying41 rfl rfl rfl rfl (by omega) (bw16 rfl rfl rfl rfl rfl rfl rfl rfl rfl rfl rfl rfl rfl rfl rfl rfl)) rfl λw21=>kB 7 [1] λB23=>?_;refine cV e20 R0_ (J4_ _) rfl λr1 hr24 e26 w25=>?_;have hA26:=Xf_ (A16.get s.rises v)
   (try rw[<- hr24] at hA26)
   (try have hB27:=(show RiOk (A16.get s.rises v) by first|assumption|exact hs4 _ (by omega)).1)
   refine kC 9 ?_;refine next ⟨f1,(n1+r1),(v+1)⟩ rfl rfl ⟨rfl,rfl,trivial⟩ trivial ?_ ?_
   . (try simp only[]);omega
   exact⟨by (try simp only[]);omega,e26,by (try simp only[]);omega⟩
 refine kA 12 ?_;exact rt1 rfl rfl (Am_ (λr:Int=> .int .i64 r) e30 (ple rfl))
theorem Ln_ (s:F_) (hs:StkOk s:=by first|assumption|exact StOk.stk (by assumption)):Fn prog gb 123 [.agg (F_.pc s)] (.int .i64 (Dt_ s)):=by
 refine kG func123 ntmps123 λw N H hG=>?_;have hs0:=hs;obtain⟨⟨hs1,hs2,hs3⟩,hs4,hs5,hs6⟩:=hs0;have e0:=Dt_.eq_1 s;refine kB 7 [0] λB2=>?_;refine aN [1,2,3,4,5,6] 6 mixd<|kE [0,1,2] 3 ?_;refine vC 3 rfl (Jd_ _) rfl λw3=>?_;have hB3:=Wx_ s (by assumption);refine kF [4,5] 0 ?_;refine vD<|kA 2 ?_;exact rt1 rfl rfl (Am_ (λr:Int=> .int .i64 r) e0 (ple rfl))
abbrev R4_:(Mail×Bool)->PV:=λr=> .tup [.agg (Mail.pc r.1), .bool r.2]
abbrev R5_:(Ae_×M_×Int)->PV:=λr=> .tup [.agg (Ae_.pc r.1), .agg (M_.pc r.2.1), .int .i64 r.2.2]
abbrev R6_:F_->PV:=λr=> .agg (F_.pc r)
abbrev R7_:(Ae_×M_×Bool)->PV:=λr=> .tup [.agg (Ae_.pc r.1), .agg (M_.pc r.2.1), .bool r.2.2]
theorem L4_ (s:F_) (name:Bs) (m:Mail) (hs:StkOk s:=by first|assumption|exact StOk.stk (by assumption)) (hh:m.head.length<=1000000:=by omega):Fn prog gb 175 [.agg (F_.pc s), .str name, .agg (Mail.pc m)] (.tup [.agg (F_.pc ((Ay_ s name m).1)), .int .u64 ((Ay_ s name m).2.1), .agg (Mail.pc ((Ay_ s name m).2.2.1)), .int .i64 ((Ay_ s name m).2.2.2)]):=by
 refine kG func175 ntmps175 λw N H hG=>?_;have s_next_r:0<=s.next /\ s.next <= 18446744073709551615:=w.1.1;have s_bytes_r:-9223372036854775808<=s.bytes/\s.bytes<=9223372036854775807:=w.1.2.1;have s_rows_l:s.rows.length<=140737488355328:=w.1.2.2.1.1;have name_l:name.length<=9223372036854775807:=w.2.1;have m_id_r:0<=m.id/\m.id<=18446744073709551615:=w.2.2.1.1;have m_shop_l:m.Bb_.length<=9223372036854775807:=w.2.2.1.2.1;have m_key_l:m.key.length<=9223372036854775807:=w.2.2.1.2.2.1;have m_head_l:m.head.length<=140737488355328:=w.2.2.1.2.2.2.1.1;have m_body_l:m.body.length<=9223372036854775807:=w.2.2.1.2.2.2.2.1;have m_due_r:0<=m.due/\m.due<=18446744073709551615:=w.2.2.1.2.2.2.2.2.1;have m_hops_r:0<=m.hops/\m.hops<=255:=w.2.2.1.2.2.2.2.2.2.1;have hs0:=hs;obtain⟨⟨hs1,hs2,hs3⟩,hs4,hs5,hs6⟩:=hs0;have e0:=Ay_.eq_1 s name m;generalize Ay_ s name m=z at e0 ⊢;refine kB 14 [0,1,2,3] λB2=>?_;refine cV e0 R0_ (Em_ _ _) rfl λr hr6 e8 w7=>?_;have hA8:=at_b s name
 (try rw[<- hr6] at hA8)
 refine kA 10 ?_;refine cD e8 (λp11 e12=>?_) (λp14 e15=>?_)
 . refine kB 12 [] λ_=>?_;subst e12;exact qr4
 refine kA 6 ?_;refine call (J2_ _) rfl rfl λw16=>?_;have :=Nz_ m;have hmo16:=λh=>Hs_ (m:=m) h;refine kA 9 ?_;refine cN e15 (λp19 e20=>?_) (λp23 e24=>?_)
 . refine kB 13 [] λ_=>?_;subst e20;exact qr4
 refine kA 10 ?_;refine cD e24 (λp26 e27=>?_) (λp29 e30=>?_)
 . refine kB 12 [] λ_=>?_;subst e27;exact qr4
 have hc31:=getG (xs:=s.rows) (k:=(r).toNat) (by omega);have hz_hc31:=RwsOk.at hs.1 hc31;have hy_hc31:=hz_hc31.1;refine kA 7 ?_;refine q1 (qidx G_ (r).toNat rfl rfl (by omega) hc31 rfl rfl rfl rfl) rfl λw32=>kB 12 [4,5] λB34=>?_;obtain⟨o,e_o,q_o⟩:=lp2_split e30;refine Ii_ (ι:=Ae_×Mail) [3,5,6,8,10,12,13] [0,1,2,3] (λ⟨x,x1⟩=>[]) (λ⟨x,x1⟩=>[(4, .box (B34 0) 165 (Ae_.pc x)),(5, .box (B34 1) 64 (Mail.pc x1))]) (λ⟨x,x1⟩=>o = .fin (x,x1)/\LnOk x) ?_ ?_
 . refine kA 1 ?_;refine aN [6,7,8,9,10,11] 11 mixd<|kE [0] 10 ?_;refine vC 1 rfl (Hx_ _) rfl λw36=>kE [2,3,4,5] 5 ?_;refine vq 6 (qidx G_ (r).toNat rfl rfl (by omega) hc31 rfl rfl rfl rfl) rfl (by kernel_rfl) rfl λw37=>kE [7,8,9,10] 0 ?_;refine vD<|kA 1 ?_;refine cD e_o (λp39 e40=>?_) (λp58 e59=>?_)
   . refine kA 3 ?_;refine cV e40 R4_ (Lt_ _) rfl λr1 hr41 e43 w42=>kB 15 [6] λB45=>?_;refine cE e43 (λh46 e48=>?_) (λh46 e52=>?_)
     . have h47:=E7_ h46;refine kB 14 [] λ_=>?_;have e50:=lp2_ret q_o e48;subst e50;exact qr4
     have h51:=Eu_ h46;refine kA 7 ?_;refine cV e52 R5_ (Lc_ _ _) rfl λr2 hr53 e55 w54=>?_
     (try have hA55:=Oi_ (l:=((gt s.rows ((r).toNat)).l)) (id:=r1.1.id) (by assumption);(try rw[<- hr53] at hA55);obtain⟨hA55_0,hA55_1⟩:=hA55)
     refine kB 11 [] λ_=>?_;refine nX ⟨r2.1,r1.1⟩ ?_ trivial ⟨rfl,rfl,trivial⟩;exact⟨e55,by assumption⟩
   refine kA 1 ?_;refine nX ⟨(gt s.rows ((r).toNat)).l,(⟨0,[],[],[],[],0,0⟩:Mail)⟩ ?_ trivial ⟨rfl,rfl,trivial⟩;exact⟨e59,by assumption⟩
 rintro⟨x,x1⟩ ⟨hp60,hp60_3⟩;have e61:=lp2_fin q_o hp60;refine kB 11 [] λ_=>?_;refine aN [6,7,8,9,10,11] 8 mixd<|kE [0] 7 ?_;refine vC 1 rfl (Lu_ (⟨s.next,m.Bb_,m.key,m.head,m.body,m.due,m.hops⟩:Mail)) rfl λw63=>?_;have hB63:=Ri_ (⟨s.next,m.Bb_,m.key,m.head,m.body,m.due,m.hops⟩:Mail);refine kE [2] 5 ?_;refine vC 3 rfl (Ln_ _) rfl λw65=>?_;have hB65:=kroom_r s (by assumption);refine kE [4] 3 ?_;refine vC 5 rfl (Lu_ _) rfl λw67=>?_;have hB67:=Ri_ x1;refine kF [6,7] 0 ?_;refine vD<|kA 1 ?_;refine cD e61 (λp70 e71=>?_) (λp73 e74=>?_)
 . refine kB 12 [] λ_=>?_;subst e71;exact qr4
 refine kA 6 ?_;refine cV e74 R2_ (Kl_ _ (⟨s.next,m.Bb_,m.key,m.head,m.body,m.due,m.hops⟩:Mail)) rfl λr3 hr75 e77 w76=>?_;have hA77:=Wz_ (l:=x) (m:=(⟨s.next,m.Bb_,m.key,m.head,m.body,m.due,m.hops⟩:Mail)) (by assumption) (by (try simp only[]);omega)
 (try rw[<- hr75] at hA77)
 refine kB 14 [] λ_=>?_;refine cN e77 (λp82 e83=>?_) (λp86 e87=>?_)
 . refine kB 13 [] λ_=>?_;subst e83;exact qr4
 refine kA 7 ?_;refine cV e87 R6_ (Fm_ _ _ _) rfl λr4 hr88 e90 w89=>?_;have hA90:=Iw_ s r r3.1
 (try rw[<- hr88] at hA90)
 have :=Hg_ (r4.next + 1);refine kB 13 [] λ_=>?_;refine aN [2,3,6,7,8,9,10,11] 8 mixd<|kE [0,1,2,3] 4 ?_;refine vE 4 rfl (sA G_ ?_);refine kE [5] 2 ?_;refine vT 6 rfl (sA G_ ?_);refine kE [7] 0 ?_;refine vD<|kA 2 ?_;subst e90;exact qr4
theorem Pd_ (s:F_) (name:Bs) (hs:StkOk s:=by first|assumption|exact StOk.stk (by assumption)):Fn prog gb 103 [.agg (F_.pc s), .str name] (.tup [.agg (F_.pc ((B5_ s name).1)), .agg (M_.pc ((B5_ s name).2.1)), .bool ((B5_ s name).2.2)]):=by
 refine kG func103 ntmps103 λw N H hG=>?_;have hs0:=hs;obtain⟨⟨hs1,hs2,hs3⟩,hs4,hs5,hs6⟩:=hs0;have e0:=B5_.eq_1 s name;generalize B5_ s name=z at e0 ⊢;refine kB 12 [0,1,2] λB2=>?_;refine cV e0 R0_ (Em_ _ _) rfl λr hr5 e7 w6=>?_;have hA7:=at_b s name
 (try rw[<- hr5] at hA7)
 refine kA 10 ?_;refine cD e7 (λp10 e11=>?_) (λp13 e14=>?_)
 . refine kB 11 [] λ_=>?_;subst e11;exact qr3
 have hc15:=getG (xs:=s.rows) (k:=(r).toNat) (by omega);have hz_hc15:=RwsOk.at hs.1 hc15;have hy_hc15:=hz_hc15.1;refine kA 7 ?_;refine q1 (qidx G_ (r).toNat rfl rfl (by omega) hc15 rfl rfl rfl rfl) rfl λw16=>kA 2 ?_;refine cV e14 R7_ (Jz_ _) rfl λr1 hr17 e19 w18=>?_
 (try have hA19:=Rw_ (l:=((gt s.rows ((r).toNat)).l)) (by assumption);(try rw[<- hr17] at hA19);obtain⟨hA19_0,hA19_1⟩:=hA19)
 refine kB 12 [3,4] λB22=>?_;refine aN [1,2,5,6,7,8,9,10] 9 mixd<|kE [0,1,2,4,5] 4 ?_;refine vE 3 rfl (eC (Fm_ _ _ _) rfl ?_);have hB24:=Iw_ s r r1.1;generalize hr26:Ac_ s r r1.1=r2;intro w24;have e27:=e19.trans (C3_ hr26.symm);have hr26:=hr26.symm;have hA27:=Iw_ s r r1.1
 (try rw[<- hr26] at hA27)
 refine vE 6 rfl (sA G_ ?_);refine vtp 7 rfl (by kernel_rfl) (by kernel_rfl) (sA G_ ?_);refine kE [8] 0 ?_;refine vD<|kA 2 ?_;subst e27;exact qr3
theorem Pa_ (s:F_) (name:Bs) (id:Int) (hs:StkOk s:=by first|assumption|exact StOk.stk (by assumption)):Fn prog gb 104 [.agg (F_.pc s), .str name, .int .u64 id] (.tup [.agg (F_.pc ((Co_ s name id).1)), .int .i64 ((Co_ s name id).2)]):=by
 refine kG func104 ntmps104 λw N H hG=>?_;have hs0:=hs;obtain⟨⟨hs1,hs2,hs3⟩,hs4,hs5,hs6⟩:=hs0;have e0:=Co_.eq_1 s name id;generalize Co_ s name id=z at e0 ⊢;refine kB 11 [0,1] λB2=>?_;refine cV e0 R0_ (Em_ _ _) rfl λr hr4 e6 w5=>?_;have hA6:=at_b s name
 (try rw[<- hr4] at hA6)
 refine kA 10 ?_;refine cD e6 (λp9 e10=>?_) (λp12 e13=>?_)
 . refine kB 9 [] λ_=>?_;subst e10;exact qr2
 have hc14:=getG (xs:=s.rows) (k:=(r).toNat) (by omega);have hz_hc14:=RwsOk.at hs.1 hc14;have hy_hc14:=hz_hc14.1;refine kA 7 ?_;refine q1 (qidx G_ (r).toNat rfl rfl (by omega) hc14 rfl rfl rfl rfl) rfl λw15=>kA 3 ?_;refine cV e13 R2_ (Mj_ _ _) rfl λr1 hr16 e18 w17=>?_;have hA18:=W0_ (l:=((gt s.rows ((r).toNat)).l)) (id:=id) (by assumption)
 (try rw[<- hr16] at hA18)
 refine kB 13 [2] λB21=>?_;refine cV e18 R6_ (Fm_ _ _ _) rfl λr2 hr22 e24 w23=>?_;have hA24:=Iw_ s r r1.1
 (try rw[<- hr22] at hA24)
 refine kB 6 [] λ_=>?_;subst e24;exact qr2
theorem Kj_ (s:F_) (name:Bs) (id:Int) (hs:StkOk s:=by first|assumption|exact StOk.stk (by assumption)):Fn prog gb 105 [.agg (F_.pc s), .str name, .int .u64 id] (.tup [.agg (F_.pc ((Ai_ s name id).1)), .agg (M_.pc ((Ai_ s name id).2.1)), .int .i64 ((Ai_ s name id).2.2)]):=by
 refine kG func105 ntmps105 λw N H hG=>?_;have hs0:=hs;obtain⟨⟨hs1,hs2,hs3⟩,hs4,hs5,hs6⟩:=hs0;have e0:=Ai_.eq_1 s name id;generalize Ai_ s name id=z at e0 ⊢;refine kB 12 [0,1,2] λB2=>?_;refine cV e0 R0_ (Em_ _ _) rfl λr hr5 e7 w6=>?_;have hA7:=at_b s name
 (try rw[<- hr5] at hA7)
 refine kA 10 ?_;refine cD e7 (λp10 e11=>?_) (λp13 e14=>?_)
 . refine kB 11 [] λ_=>?_;subst e11;exact qr3
 have hc15:=getG (xs:=s.rows) (k:=(r).toNat) (by omega);have hz_hc15:=RwsOk.at hs.1 hc15;have hy_hc15:=hz_hc15.1;refine kA 7 ?_;refine q1 (qidx G_ (r).toNat rfl rfl (by omega) hc15 rfl rfl rfl rfl) rfl λw16=>kA 3 ?_;refine cV e14 R5_ (Lc_ _ _) rfl λr1 hr17 e19 w18=>?_
 (try have hA19:=Oi_ (l:=((gt s.rows ((r).toNat)).l)) (id:=id) (by assumption);(try rw[<- hr17] at hA19);obtain⟨hA19_0,hA19_1⟩:=hA19)
 refine kB 12 [3,4] λB22=>?_;refine aN [1,2,5,6,7,8,9,10] 9 mixd<|kE [0,1,2,4,5] 4 ?_;refine vE 3 rfl (eC (Fm_ _ _ _) rfl ?_);have hB24:=Iw_ s r r1.1;generalize hr26:Ac_ s r r1.1=r2;intro w24;have e27:=e19.trans (C3_ hr26.symm);have hr26:=hr26.symm;have hA27:=Iw_ s r r1.1
 (try rw[<- hr26] at hA27)
 refine vE 6 rfl (sA G_ ?_);refine vtp 7 rfl (by kernel_rfl) (by kernel_rfl) (sA G_ ?_);refine kE [8] 0 ?_;refine vD<|kA 2 ?_;subst e27;exact qr3
theorem Ov_ (s:F_) (place:Int) (m:Mail) (hs:StkOk s:=by first|assumption|exact StOk.stk (by assumption)) (hh:m.head.length<=1000000:=by omega):Fn prog gb 177 [.agg (F_.pc s), .int .i64 place, .agg (Mail.pc m)] (.tup [.agg (F_.pc ((Bl_ s place m).1)), .int .i64 ((Bl_ s place m).2)]):=by
 refine kG func177 ntmps177 λw N H hG=>?_;have hs0:=hs;obtain⟨⟨hs1,hs2,hs3⟩,hs4,hs5,hs6⟩:=hs0;have e0:=Bl_.eq_1 s place m;generalize Bl_ s place m=z at e0 ⊢;refine kD 19 [0,1,2] λB2=>?_;refine cE e0 (λh5 e6=>?_) (λh5 e12=>?_)
 . refine kB 9 [] λ_=>?_;subst e6;exact qr2
 have h8:=orl h5;have p9:=df h8;have h10:=orr h5;have p11:=df h10;refine kA 3 ?_;refine Ii_ (ι:=Nat) [1,3,6,7] [0,1,2] (λb13=>[(8, .own 3 b13 0),(9, .int .i64 ((Cc_ (A16.get s.rises ((place).toNat)) m).2))]) (λb13=>[(3, .box b13 40 [.int .u64 (((Cc_ (A16.get s.rises ((place).toNat)) m).1).total), .sl Mail.pc (((Cc_ (A16.get s.rises ((place).toNat)) m).1).kept)])]) (λb13=>PV.wf (.tup [.agg (Bc_.pc ((Cc_ (A16.get s.rises ((place).toNat)) m).1)), .int .i64 ((Cc_ (A16.get s.rises ((place).toNat)) m).2)])) ?_ ?_
 . refine aN [3,4,5,6,7,8,9,10] 12 mixd<|kE [0,1] 10 ?_;refine vq 2 (qaia (place).toNat rfl rfl underlying41 sz40 (by omega) (by omega)) rfl (by kernel_rfl) rfl λw14=>kE [4] 8 ?_;refine veL 3 [9] (by kernel_rfl) ⟨⟨_,rfl,?_⟩,⟨_,rfl,?_⟩,trivial⟩
   . refine ej rfl (Ts_ (sz:=2) (len:=16) (λq=>[.int .u64 ((A16.get s.rises q).total), .sl Mail.pc ((A16.get s.rises q).kept)]) ((place).toNat) 3 2 0 G_ rfl rfl rfl rfl rfl rfl rfl (by omega) (bw16 rfl rfl rfl rfl rfl rfl rfl rfl rfl rfl rfl rfl rfl rfl rfl rfl) (bw16 rfl rfl rfl rfl rfl rfl rfl rfl rfl rfl rfl rfl rfl rfl rfl rfl) rfl λw15=>?_);refine veL 5 [9] (by kernel_rfl) ⟨⟨_,rfl,?_⟩,⟨_,rfl,?_⟩,trivial⟩
     . refine ej rfl (eC (I4_ (A16.get s.rises ((place).toNat)) m (hx:=by exact hs4 _ (by omega))) rfl λw16=>?_);refine kE [6,7,8] 3 ?_;refine vE 9 rfl (aL G_ 3 λb17=>?_);refine vE 10 rfl (sA G_ ?_);refine kE [11] 0 ?_;refine vD<|nX (b17) ?_ ⟨rfl,rfl,trivial⟩ ⟨rfl,trivial⟩;exact w16
     refine ej rfl (aL G_ 3 λb18=>?_);refine vE 5 rfl (eC (I4_ (A16.get s.rises ((place).toNat)) m (hx:=by exact hs4 _ (by omega))) rfl λw19=>?_);refine kE [6,7,8] 2 ?_;refine vE 10 rfl (sA G_ ?_);refine kE [11] 0 ?_;refine vD<|nX (b18) ?_ ⟨rfl,rfl,trivial⟩ ⟨rfl,trivial⟩;exact w19
   refine ej rfl (aL G_ 3 λb20=>?_);refine vE 3 rfl (Ts_ (sz:=2) (len:=16) (λq=>[.int .u64 ((A16.get s.rises q).total), .sl Mail.pc ((A16.get s.rises q).kept)]) ((place).toNat) 3 2 0 G_ rfl rfl rfl rfl rfl rfl rfl (by omega) (bw16 rfl rfl rfl rfl rfl rfl rfl rfl rfl rfl rfl rfl rfl rfl rfl rfl) (bw16 rfl rfl rfl rfl rfl rfl rfl rfl rfl rfl rfl rfl rfl rfl rfl rfl) rfl λw21=>?_);refine vE 5 rfl (eC (I4_ (A16.get s.rises ((place).toNat)) m (hx:=by exact hs4 _ (by omega))) rfl λw22=>?_);refine kE [6,7,8] 2 ?_;refine vE 10 rfl (sA G_ ?_);refine kE [11] 0 ?_;refine vD<|nX (b20) ?_ ⟨rfl,rfl,trivial⟩ ⟨rfl,trivial⟩;exact w22
 generalize hr23:Cc_ (A16.get s.rises ((place).toNat)) m=r;rintro b13 w24;have e25:=e12.trans (C3_ hr23.symm);have hr23:=hr23.symm
 (try have hA25:=rput_ok (x:=(A16.get s.rises ((place).toNat))) (m:=m) (by first|assumption|exact hs4 _ (by omega));(try rw[<- hr23] at hA25))
 refine kA 10 ?_;refine cN e25 (λp29 e30=>?_) (λp33 e34=>?_)
 . refine kB 11 [] λ_=>?_;subst e30;exact qr2
 refine kA 1 ?_;refine aN [4,5,6,7,8,9] 15 mixd<|kE [0] 14 ?_;refine vC 1 rfl (Jd_ s) rfl λw35=>?_;have hB35:=Wx_ s (by assumption);refine kE [2,3] 11 ?_;refine vq 4 (qaia (place).toNat rfl rfl underlying41 sz40 (by omega) (by omega)) rfl (by kernel_rfl) rfl λw37=>kE [8,11,12] 7 ?_;refine vE 5 rfl (Ts_ (sz:=2) (len:=16) (λq=>[.int .u64 ((A16.get s.rises q).total), .sl Mail.pc ((A16.get s.rises q).kept)]) ((place).toNat) 3 2 0 G_ rfl rfl rfl rfl rfl rfl rfl (by omega) (bw16 rfl rfl rfl rfl rfl rfl rfl rfl rfl rfl rfl rfl rfl rfl rfl rfl) (bw16 rfl rfl rfl rfl rfl rfl rfl rfl rfl rfl rfl rfl rfl rfl rfl rfl) rfl λw38=>?_);refine vC 6 rfl (J4_ (A16.get s.rises ((place).toNat))) rfl λw39=>?_;have hB39:=Xf_ (A16.get s.rises ((place).toNat))
 (try have hB40:=(show RiOk (A16.get s.rises ((place).toNat)) by first|assumption|exact hs4 _ (by omega)).1)
 refine kF [7] 4 ?_;refine vC 9 rfl (J4_ (r.1)) rfl λw42=>?_;have hB42:=Xf_ (r.1)
 (try have hB43:=(show RiOk (r.1) by first|assumption|exact hs4 _ (by omega)).1)
 refine kF [10,13,14] 0 ?_;refine vD<|kA 1 ?_;refine cD e34 (λp46 e47=>?_) (λp49 e50=>?_)
 . refine kB 10 [] λ_=>?_;subst e47;exact qr2
 refine kA 8 ?_;refine q1 (qaia (place).toNat rfl rfl underlying41 sz40 (by omega) (by omega)) rfl λw51=>ef (Sa_ (sz:=2) (len:=16) (λq=>F_.pc (⟨s.next,s.bytes,s.rows,(A16.set s.rises (r.1) q)⟩:F_)) ((place).toNat) 3 2 0 G_ rfl rfl rfl rfl rfl rfl rfl rfl rfl (by omega) (bw16 rfl rfl rfl rfl rfl rfl rfl rfl rfl rfl rfl rfl rfl rfl rfl rfl) rfl (bw16 rfl rfl rfl rfl rfl rfl rfl rfl rfl rfl rfl rfl rfl rfl rfl rfl) rfl ?_);refine kB 10 [] λ_=>?_;subst e50;exact qr2
theorem Pc_ (s:F_) (tick:Int) (hs:StkOk s:=by first|assumption|exact StOk.stk (by assumption)):Fn prog gb 106 [.agg (F_.pc s), .int .u64 tick] (.tup [.str ((Az_ s tick).1), .agg (Mail.pc ((Az_ s tick).2.1)), .bool ((Az_ s tick).2.2)]):=by
 refine kG func106 ntmps106 λw N H hG=>?_;have hs0:=hs;obtain⟨⟨hs1,hs2,hs3⟩,hs4,hs5,hs6⟩:=hs0;have e0:=Az_.eq_1 s tick;generalize Az_ s tick=z at e0 ⊢;refine kB 18 [0,1] λB2=>?_;refine loop (ι:=Nat) [1,5,12,13] [0,1] (λk=>[(14, .int .i64 (k:Int))]) (λk=>[]) (λk=>k<=s.rows.length/\z=Be_ tick (s.rows.drop k)) (λk=>s.rows.length-k) 0 ⟨rfl,trivial⟩ trivial ?_ ?_
 . exact⟨Nat.zero_le _,e0⟩
 rintro k ⟨hp4_1,hp4_2⟩;refine kA 6 ?_;refine cn rfl (λp6=>?_) λp20=>?_
 . have e7:=C5_ (f:=λzz=>Be_ tick zz) hp4_2 (Gs_ (by omega)) (Be_.eq_2 _ _ _);have hc8:=getG (xs:=s.rows) (k:=k) (by omega);have hz_hc8:=RwsOk.at hs.1 hc8;have hy_hc8:=hz_hc8.1;refine kA 6 ?_;refine kI k hc8 λw9=>?_;refine kB 10 [2] λB11=>?_;refine cV e7 R4_ (Qx_ _ _) rfl λr hr12 e14 w13=>kB 13 [3] λB16=>?_;refine cE e14 (λh17 e18=>?_) (λh17 e19=>?_)
   . refine kA 1 ?_;refine aN [1,4,5,6,7,8,9] 7 mixd<|kE [0,1,2,3,4] 2 ?_;refine vT 5 rfl (sA G_ ?_);refine kE [6] 0 ?_;refine vD<|kA 7 ?_;subst e18;exact qr3
   refine kC 7 ?_;refine next (k+1) rfl rfl ⟨rfl,trivial⟩ trivial ?_ ?_
   . (try simp only[]);omega
   exact⟨by (try simp only[]);omega,e19⟩
 have e21:=C5_ (f:=λzz=>Be_ tick zz) hp4_2 (Gy_ (by omega)) (Be_.eq_1 _);refine kB 14 [] λ_=>?_;subst e21;exact qr3
theorem Pg_ (s:F_) (hs:StkOk s:=by first|assumption|exact StOk.stk (by assumption)):Fn prog gb 40 [.agg (F_.pc s)] (.agg (F_.pc (Ew_ s))):=by
 refine kG func40 ntmps40 λw N H hG=>?_;have hs0:=hs;obtain⟨⟨hs1,hs2,hs3⟩,hs4,hs5,hs6⟩:=hs0;have e0:=Ew_.eq_1 s;refine kB 16 [0,1] λB2=>?_;refine loop (ι:=Nat×F_) [1,2,6,7] [1] (λ⟨k,x⟩=>[(8, .int .i64 (k:Int))]) (λ⟨k,x⟩=>[(0, .box (B2 0) 43 (F_.pc x))]) (λ⟨k,x⟩=>k<=s.rows.length/\Ew_ s=Bt_ (s.rows.drop k) k x/\x.rows.length=s.rows.length) (λ⟨k,x⟩=>s.rows.length-k) ⟨0,s⟩ ⟨rfl,trivial⟩ ⟨rfl,trivial⟩ ?_ ?_
 . exact⟨Nat.zero_le _,e0,rfl⟩
 rintro⟨k,x⟩ ⟨hp4_1,hp4_2,hp4_3⟩;refine kA 6 ?_;refine cn rfl (λp6=>?_) λp21=>?_
 . have e7:=C5_ (f:=λzz=>Bt_ zz k x) hp4_2 (Gs_ (by omega)) (Bt_.eq_2 _ _ _ _);have hc8:=getG (xs:=s.rows) (k:=k) (by omega);have hz_hc8:=RwsOk.at hs.1 hc8;have hy_hc8:=hz_hc8.1;refine kA 7 ?_;refine kI k hc8 λw9=>?_;refine kB 6 [2] λB11=>?_;refine aN [3,4,5,6,7,8] 7 mixd<|kE [0,1,2,3] 3 ?_;refine vE 4 rfl (eC (Qz_ _) rfl ?_);generalize hr13:Eq_ ((gt s.rows k).l)=r;intro w12;have e14:=e7.trans (C3_ hr13.symm);have hr13:=hr13.symm;have hA14:=lwake_ok (l:=((gt s.rows k).l)) (by assumption)
   (try rw[<- hr13] at hA14)
   refine vE 5 rfl (eC (Fm_ _ _ _) rfl ?_);have hB16:=Iw_ x (k:Int) r;generalize hr18:Ac_ x (k:Int) r=r1;intro w16;have e19:=e14.trans (C3_ hr18.symm);have hr18:=hr18.symm;have hA19:=Iw_ x (k:Int) r
   (try rw[<- hr18] at hA19)
   refine vT 6 rfl (sA G_ ?_);refine vD<|kC 6 ?_;refine next ⟨(k+1),r1⟩ rfl rfl ⟨rfl,trivial⟩ ⟨rfl,trivial⟩ ?_ ?_
   . (try simp only[]);omega
   exact⟨by (try simp only[]);omega,e19,by (try simp only[]);omega⟩
 have e22:=C5_ (f:=λzz=>Bt_ zz k x) hp4_2 (Gy_ (by omega)) (Bt_.eq_1 _ _);refine kB 12 [] λ_=>?_;exact rt1 rfl rfl (Am_ (λr:F_=> .agg (F_.pc r)) e22 (ple rfl))
abbrev R8_:(List P_)->PV:=λr=> .sl P_.pc r
abbrev R9_:(B7_×Int)->PV:=λr=> .tup [.agg (B7_.pc r.1), .int .i64 r.2]
theorem L3_ (b:Ap_) (so:FuncId) (so_fst so_cap:List PV) (so_p:P_->Bool) (so_h:∀ x,Fn prog gb so (argsP.apL so_fst ((.agg (P_.pc x))::so_cap)) (.bool (so_p x))) (hb:b.binds.length<=1000:=by first|omega|(simp;omega)|decide +kernel):Fn prog gb 170 [.agg (Ap_.pc b), .fn so so_fst so_cap] (.sl P_.pc (Gp_ b so_p)):=by
 refine kG func170 ntmps170 λw N H hG=>?_;have e0:=Gp_.eq_1 b so_p;refine kB 21 [0] λB2=>?_;refine sw_own (t:=5) (k:=6) (e:=62) 1 P_.pc rfl rfl ?_;refine loop (ι:=Nat×(List P_)×Value) [1,4,9,10] [0] (λ⟨k,out,u_out⟩=>[(11, .int .i64 (k:Int)),(5, .osl 1)]) (λ⟨k,out,u_out⟩=>[(1, .arr u_out 6 62 P_.pc out)]) (λ⟨k,out,u_out⟩=>k<=b.binds.length/\Gp_ b so_p=Cd_ so_p (b.binds.drop k) out/\out.length<=k) (λ⟨k,out,u_out⟩=>b.binds.length-k) ⟨0,[],(.slice none 0 0)⟩ ⟨rfl,rfl,trivial⟩ ⟨rfl,trivial⟩ ?_ ?_
 . exact⟨Nat.zero_le _,e0,(by first|omega|(simp;done)|(simp;omega))⟩
 rintro⟨k,out,u_out⟩ ⟨hp3_1,hp3_2,hp3_3⟩;refine kA 6 ?_;refine cn rfl (λp5=>?_) λp17=>?_
 . have e6:=C5_ (f:=λzz=>Cd_ so_p zz out) hp3_2 (Gs_ (by omega)) (Cd_.eq_2 _ _ _ _);have hc7:=getG (xs:=b.binds) (k:=k) (by omega);refine kA 6 ?_;refine kI k hc7 λw8=>?_;refine kB 9 [2] λB10=>?_;refine call (so_h (gt b.binds k)) rfl rfl λw11=>kA 2 ?_;refine cE e6 (λh12 e13=>?_) (λh12 e16=>?_)
   . refine kA 3 ?_;refine ef (bsl 3 P_.pc [(gt b.binds k)] G_ rfl rfl rfl rfl rfl (λ_=>rfl) rfl (by decide) (by decide) rfl λu14=>?_);refine ef (app G_ [(gt b.binds k)] rfl rfl rfl rfl rfl rfl rfl rfl rfl (src_o rfl rfl) (by first|omega|(simp;omega)) rfl λu15=>?_);refine kC 8 ?_;refine next ⟨(k+1),(out++[(gt b.binds k)]),(u15)⟩ rfl rfl ⟨rfl,rfl,trivial⟩ ⟨rfl,trivial⟩ ?_ ?_
     . (try simp only[]);omega
     exact⟨by (try simp only[]);omega,e13,(by (try simp only[List.length_append,List.length_cons,List.length_nil]);omega)⟩
   refine kC 7 ?_;refine next ⟨(k+1),out,(u_out)⟩ rfl rfl ⟨rfl,rfl,trivial⟩ ⟨rfl,trivial⟩ ?_ ?_
   . (try simp only[]);omega
   exact⟨by (try simp only[]);omega,e16,(by (try simp only[List.length_append,List.length_cons,List.length_nil]);omega)⟩
 have e18:=C5_ (f:=λzz=>Cd_ so_p zz out) hp3_2 (Gy_ (by omega)) (Cd_.eq_1 _ _);refine kA 11 ?_;refine givec 1 rfl<|kA 1 ?_;exact rt1 rfl rfl (Am_ (λr:(List P_)=> .sl P_.pc r) e18 (ple rfl))
theorem Sh_ (x:P_) (x1:Bs):Fn prog gb 171 [.agg (P_.pc x), .el [.str x1] 0] (.bool (Je_ x x1)):=by
 refine kG func171 ntmps171 λw N H hG=>?_;have e0:=Je_.eq_1 x x1;refine kD 20 [0] λB2=>?_;exact rt1 rfl rfl (Am_ (λr:Bool=> .bool r) e0 (ple rfl))
theorem Os_ (b:Ap_) (queue:Bs) (hb:b.Ba_.length<=1000/\b.binds.length<=1000:=by first|assumption|omega|decide):Fn prog gb 98 [.agg (Ap_.pc b), .str queue] (.agg (Ap_.pc (Dg_ b queue))):=by
 refine kG func98 ntmps98 λw N H hG=>?_;have e0:=Dg_.eq_1 b queue;refine kB 10 [0,1,2] λB2=>?_;refine freeze (i:=1) (t:=3) rfl rfl rfl rfl<|kA 1 ?_;refine cV e0 R8_ (L3_ _ _ _ _ (λz_5:P_=>(Je_ z_5 queue)) (λz_5=>Sh_ z_5 queue)) rfl λr hr6 e8 w7=>kB 11 [] λ_=>?_;exact rt1 rfl rfl (Am_ (λr:Ap_=> .agg (Ap_.pc r)) e8 (ple rfl))
theorem Vs_ (x:W_) (x1:Bs):Fn prog gb 195 [.agg (W_.pc x), .el [.str x1] 0] (.bool (Cu_ x x1)):=by
 refine kG func195 ntmps195 λw N H hG=>?_;have e0:=Cu_.eq_1 x x1;refine kB 16 [0] λB2=>?_;exact rt1 rfl rfl (Am_ (λr:Bool=> .bool r) e0 (ple rfl))
theorem Vt_ (x:P_) (x1:Bs):Fn prog gb 196 [.agg (P_.pc x), .el [.str x1] 0] (.bool (L9_ x x1)):=by
 refine kG func196 ntmps196 λw N H hG=>?_;have e0:=L9_.eq_1 x x1;refine kB 16 [0] λB2=>?_;exact rt1 rfl rfl (Am_ (λr:Bool=> .bool r) e0 (ple rfl))
theorem Qg_ (b:Ap_) (name:Bs) (hb:b.Ba_.length<=1000/\b.binds.length<=1000:=by first|assumption|omega|decide):Fn prog gb 114 [.agg (Ap_.pc b), .str name] (.tup [.agg (Ap_.pc ((Ds_ b name).1)), .int .i64 ((Ds_ b name).2)]):=by
 refine kG func114 ntmps114 λw N H hG=>?_;have e0:=Ds_.eq_1 b name;generalize Ds_ b name=z at e0 ⊢;refine kB 12 [0,1,2] λB2=>?_;refine freeze (i:=1) (t:=3) rfl rfl rfl rfl<|kA 1 ?_;refine call (idxF_Shop _ _ _ _ (λz_5:W_=>(Cu_ z_5 name)) (λz_5=>Vs_ z_5 name)) rfl rfl λw6=>?_;have hix6:=H8_ (λz_5:W_=>(Cu_ z_5 name)) b.Ba_;refine kA 10 ?_;refine cD e0 (λp8 e9=>?_) (λp11 e12=>?_)
 . refine kB 9 [] λ_=>?_;subst e9;exact qr2
 refine kA 3 ?_;refine aN [1,3,4,5,6,7] 13 mixd<|kE [0,1,2] 10 ?_;refine vq 3 (lshi G_ (idxP (λz_5:W_=>(Cu_ z_5 name)) b.Ba_).toNat rfl rfl rfl rfl rfl (λ_=>rfl) (by omega) (by omega)) rfl (by kernel_rfl) rfl λw13=>kF [4,5,6,7] 5 ?_;refine vq 8 (lslo G_ (((idxP (λz_5:W_=>(Cu_ z_5 name)) b.Ba_)+1)).toNat rfl rfl rfl rfl rfl (λ_=>rfl) (by omega) (by omega)) rfl (by kernel_rfl) rfl λw14=>vE 9 rfl (bsl 1 (slc W_.pc) [(b.Ba_.take (idxP (λz_5:W_=>(Cu_ z_5 name)) b.Ba_).toNat),(b.Ba_.drop (((idxP (λz_5:W_=>(Cu_ z_5 name)) b.Ba_)+1)).toNat)] G_ rfl rfl rfl rfl rfl (λ_=>rfl) rfl (by decide) (by decide) rfl λu15=>?_);refine vE 10 rfl (Uf_ 1 rfl (eweak (eC (Sn_ _) rfl λw16=>?_)));have hfl16:([(b.Ba_.take (idxP (λz_5:W_=>(Cu_ z_5 name)) b.Ba_).toNat),(b.Ba_.drop (((idxP (λz_5:W_=>(Cu_ z_5 name)) b.Ba_)+1)).toNat)].flatten).length=(b.Ba_.take (idxP (λz_5:W_=>(Cu_ z_5 name)) b.Ba_).toNat).length+(b.Ba_.drop (((idxP (λz_5:W_=>(Cu_ z_5 name)) b.Ba_)+1)).toNat).length:=by simp only[List.flatten_cons,List.flatten_nil,List.length_append,List.length_nil,List.length_cons,Nat.add_zero,Nat.zero_add]
 refine kE [11] 1 ?_;refine vT 12 rfl (sO G_ ?_);refine vD<|kA 5 ?_;refine cV e12 R8_ (L3_ (⟨[(b.Ba_.take (idxP (λz_5:W_=>(Cu_ z_5 name)) b.Ba_).toNat),(b.Ba_.drop (((idxP (λz_5:W_=>(Cu_ z_5 name)) b.Ba_)+1)).toNat)].flatten,b.binds⟩:Ap_) _ _ _ (λz_18:P_=>(L9_ z_18 name)) (λz_18=>Vt_ z_18 name)) rfl λr hr19 e21 w20=>kB 12 [] λ_=>?_;subst e21;exact qr2
theorem Ot_ (b:Ap_) (x:P_) (hb:b.Ba_.length<=1000/\b.binds.length<=1000:=by first|assumption|omega|decide):Fn prog gb 115 [.agg (Ap_.pc b), .agg (P_.pc x)] (.tup [.agg (Ap_.pc ((C1_ b x).1)), .int .i64 ((C1_ b x).2)]):=by
 refine kG func115 ntmps115 λw N H hG=>?_;have e0:=C1_.eq_1 b x;generalize C1_ b x=z at e0 ⊢;refine kB 12 [0,1,2] λB2=>?_;refine cV e0 R0_ (Ll_ _ _) rfl λr hr5 e7 w6=>?_;have hA7:=there_r b x
 (try rw[<- hr5] at hA7)
 refine kA 10 ?_;refine cD e7 (λp10 e11=>?_) (λp13 e14=>?_)
 . refine kB 9 [] λ_=>?_;subst e11;exact qr2
 refine kA 3 ?_;refine aN [3,4,5,6,7,8] 13 mixd<|kE [0,1,2] 10 ?_;refine vq 3 (lshi G_ (r).toNat rfl rfl rfl rfl rfl (λ_=>rfl) (by omega) (by omega)) rfl (by kernel_rfl) rfl λw15=>kF [4,5,6,7] 5 ?_;refine vq 8 (lslo G_ ((r+1)).toNat rfl rfl rfl rfl rfl (λ_=>rfl) (by omega) (by omega)) rfl (by kernel_rfl) rfl λw16=>vE 9 rfl (bsl 3 (slc P_.pc) [(b.binds.take (r).toNat),(b.binds.drop ((r+1)).toNat)] G_ rfl rfl rfl rfl rfl (λ_=>rfl) rfl (by decide) (by decide) rfl λu17=>?_);refine vE 10 rfl (Uf_ 3 rfl (eweak (eC (Sl_ _) rfl λw18=>?_)));have hfl18:([(b.binds.take (r).toNat),(b.binds.drop ((r+1)).toNat)].flatten).length=(b.binds.take (r).toNat).length+(b.binds.drop ((r+1)).toNat).length:=by simp only[List.flatten_cons,List.flatten_nil,List.length_append,List.length_nil,List.length_cons,Nat.add_zero,Nat.zero_add]
 refine kE [11] 1 ?_;refine vT 12 rfl (sO G_ ?_);refine vD<|kB 9 [] λ_=>?_;subst e14;exact qr2
theorem Xh_ (p:C_) (place:Int) (x:U_) (hp:PoOk p:=by assumption):Fn prog gb 14 [.agg (C_.pc p), .int .i64 place, .agg (U_.pc x)] (.agg (E_.pc (Fb_ p place x))):=by
 refine kG func14 ntmps14 λw N H hG=>?_;have hp0:=hp;obtain⟨hp1,hp2,hp3,hp4,hp5,hp6,hp7⟩:=hp0;have e0:=Fb_.eq_1 p place x;refine kB 8 [0,1,2] λB2=>?_;refine aN [3,4,5,6,7,8] 15 mixd<|kE [0,1,3,4,6,7] 9 ?_;refine vE 2 rfl (eC (clone_Place _) rfl λw5=>?_);refine kE [9] 7 ?_;refine vE 5 rfl (eC (clone_int _) rfl λw6=>?_);refine vE 8 rfl (eC (clone_Grant _) rfl λw7=>?_);refine vtp 10 rfl (by kernel_rfl) (by kernel_rfl) (sO G_ ?_);refine kE [11] 3 ?_;refine vtp 12 rfl (by kernel_rfl) (by kernel_rfl) (sO G_ ?_);refine kE [13] 1 ?_;refine vT 14 rfl (sO G_ ?_);refine vD<|kB 11 [] λ_=>?_;exact rt1 rfl rfl (Am_ (λr:E_=> .agg (E_.pc r)) e0 (ple rfl))
theorem Kk_ (p:C_) (place:Int) (hp:PoOk p:=by assumption) (hk:0<=place/\place<p.places.length:=by omega):Fn prog gb 9 [.agg (C_.pc p), .int .i64 place] (.agg (E_.pc (Al_ p place))):=by
 refine kG func9 ntmps9 λw N H hG=>?_;have hp0:=hp;obtain⟨hp1,hp2,hp3,hp4,hp5,hp6,hp7⟩:=hp0;have e0:=Al_.eq_1 p place;have hc4:=getG (xs:=p.places) (k:=(place).toNat) (by omega);refine kB 11 [0,1] λB2=>?_;refine q1 (qidx G_ (place).toNat rfl rfl (by omega) hc4 rfl rfl rfl rfl) rfl λw5=>kB 6 [2] λB7=>?_;refine aN [1,3,4,5,6,7,8] 10 mixd<|kE [0,1,2,3,4,5] 4 ?_;refine vE 6 rfl (eC (N6_ _ _) rfl ?_);generalize hr9:B4_ ((gt p.places ((place).toNat)).base) ((gt p.places ((place).toNat)).bytes)=r;intro w8;have e10:=e0.trans (C3_ hr9.symm);have hr9:=hr9.symm;refine kE [7] 2 ?_;refine vE 8 rfl (eC (Xh_ _ _ (⟨(⟨[],[]⟩:Ap_),r,(⟨0,[]⟩:B7_),(⟨0,0,0,0,0,0,0,0,0,0,0,0,0,0,0,0⟩:A16_u64),(⟨(⟨0,0⟩:Av_),(⟨0,0⟩:Av_),(⟨0,0⟩:Av_),(⟨0,0⟩:Av_),(⟨0,0⟩:Av_),(⟨0,0⟩:Av_),(⟨0,0⟩:Av_),(⟨0,0⟩:Av_)⟩:A8_SpentR)⟩:U_)) rfl ?_);generalize hr12:Fb_ p place (⟨(⟨[],[]⟩:Ap_),r,(⟨0,[]⟩:B7_),(⟨0,0,0,0,0,0,0,0,0,0,0,0,0,0,0,0⟩:A16_u64),(⟨(⟨0,0⟩:Av_),(⟨0,0⟩:Av_),(⟨0,0⟩:Av_),(⟨0,0⟩:Av_),(⟨0,0⟩:Av_),(⟨0,0⟩:Av_),(⟨0,0⟩:Av_),(⟨0,0⟩:Av_)⟩:A8_SpentR)⟩:U_)=r1;intro w11;have e13:=e10.trans (C3_ hr12.symm);have hr12:=hr12.symm;refine vT 9 rfl (sA G_ ?_);refine vD<|kA 2 ?_;exact rt1 rfl rfl (Am_ (λr:E_=> .agg (E_.pc r)) e13 (ple rfl))
theorem Z0_ (own:Int) (tick:Int) (life:Int):Fn prog gb 174 [.int .u64 own, .int .u64 tick, .int .u64 life] (.int .u64 (Js_ own tick life)):=by
 refine kG func174 ntmps174 λw N H hG=>?_;have e0:=Js_.eq_1 own tick life;generalize Js_ own tick life=z at e0 ⊢;have :=Hg_ (18446744073709551615-tick);refine kC 20 ?_;refine cE e0 (λh1 e2=>?_) (λh1 e7=>?_)
 . refine kA 9 ?_;subst e2;exact qr1
 have h3:=orl h1;have p4:=df h3;have h5:=orr h1;have p6:=df h5;refine kA 7 ?_;refine cD e7 (λp9 e10=>?_) (λp11 e12=>?_)
 . have :=Hg_ (tick+life);refine kA 11 ?_;subst e10;exact qr1
 have :=Hg_ (tick+life);refine kA 14 ?_;subst e12;exact qr1
theorem F6_ (s:E_):Fn prog gb 13 [.agg (E_.pc s)] (.agg (U_.pc (Af_ s))):=by
 refine kG func13 ntmps13 λw N H hG=>?_;have e0:=Af_.eq_1 s;refine kB 14 [0,1] λB2=>?_;exact rt1 rfl rfl (Am_ (λr:U_=> .agg (U_.pc r)) e0 (ple rfl))
theorem Gq_ (s:E_) (tick:Int) (kind:Int) (text:Bs) (hn:s.x.notes.kept.length<=1000:=by first|omega|(simp;omega)|decide +kernel):Fn prog gb 41 [.agg (E_.pc s), .int .u64 tick, .int .u8 kind, .str text] (.agg (E_.pc (C2_ s tick kind text))):=by
 refine kG func41 ntmps41 λw N H hG=>?_;have e0:=C2_.eq_1 s tick kind text;refine kB 15 [0,1] λB2=>?_;refine cV e0 R9_ (Jo_ _ (⟨tick,kind,text⟩:D5_)) rfl λr hr4 e6 w5=>kB 15 [] λ_=>?_;exact rt1 rfl rfl (Am_ (λr:E_=> .agg (E_.pc r)) e6 (ple rfl))
abbrev R10_:Int->PV:=λr=> .int .u64 r
abbrev R11_:(F_×Int)->PV:=λr=> .tup [.agg (F_.pc r.1), .int .i64 r.2]
abbrev R12_:Ap_->PV:=λr=> .agg (Ap_.pc r)
abbrev R13_:(Q_×Bool)->PV:=λr=> .tup [.agg (Q_.pc r.1), .bool r.2]
abbrev R14_:(F_×M_×Bool)->PV:=λr=> .tup [.agg (F_.pc r.1), .agg (M_.pc r.2.1), .bool r.2.2]
abbrev R15_:(Ap_×Int)->PV:=λr=> .tup [.agg (Ap_.pc r.1), .int .i64 r.2]
theorem sz49:Sz prog 49 2:=λw=>by kernel_rfl
theorem Ox_ (s:E_) (to_:Int) (tick:Int) (hs:StOk s:=by assumption):Fn prog gb 176 [.agg (E_.pc s), .int .i64 to_, .int .u64 tick] (.tup [.agg (E_.pc ((D1_ s to_ tick).1)), .int .i64 ((D1_ s to_ tick).2)]):=by
 refine kG func176 ntmps176 λw N H hG=>?_;have hs0:=hs;obtain⟨⟨⟨hb1,hb2,hb3⟩,hk0,hn,hu⟩,hp0,hq1,hq2⟩:=hs0;have hpp:=hp0;obtain⟨hp1,hp2,hp3,hp4,hp5,hp6,hp7⟩:=hpp;have hk1:=hk0;obtain⟨⟨hr1,hr2,hr3⟩,hr4,hr5,hr6⟩:=hk1;have e0:=D1_.eq_1 s to_ tick;generalize D1_ s to_ tick=z at e0 ⊢;refine kB 14 [0,1] λB2=>?_;refine cV e0 R0_ (H7_ _ _ _) rfl λr hr4 e6 w5=>?_;have hA6:=Wj_ s.K_ s.place to_
 (try rw[<- hr4] at hA6)
 (try have hA7:=Wk_ (p:=s.K_) (by first|assumption|exact StOk.pol (by assumption)) s.place to_;(try rw[<- hr4] at hA7))
 refine kA 10 ?_;refine cD e6 (λp10 e11=>?_) (λp13 e14=>?_)
 . refine kB 9 [] λ_=>?_;subst e11;exact qr2
 refine kA 7 ?_;refine q1 (qaia (r).toNat rfl rfl underlying50 sz49 (by omega) (by omega)) rfl λw15=>ef (Ts_ (sz:=2) (len:=8) (λq=>[.int .u64 ((A8.get s.x.spent q).round), .int .i64 ((A8.get s.x.spent q).count)]) ((r).toNat) 55 2 0 G_ rfl rfl rfl rfl rfl rfl rfl (by omega) (bw8 rfl rfl rfl rfl rfl rfl rfl rfl) (bw8 rfl rfl rfl rfl rfl rfl rfl rfl) rfl λw16=>?_);refine kB 5 [2] λB18=>?_;obtain⟨o,e_o,q_o⟩:=Hl_ e14;refine Ii_ (ι:=Av_) [1,2,3,6,7,8,9] [0,1] (λx=>[]) (λx=>[(2, .box (B18 0) 49 (Av_.pc x))]) (λx=>o=x/\0<=x.count) ?_ ?_
 . refine kA 5 ?_;refine cV e_o R10_ (Um_ _ _) rfl λr1 hr19 e21 w20=>kA 11 ?_;refine cN e21 (λp24 e25=>?_) (λp28 e29=>?_)
   . refine kB 5 [] λ_=>?_;refine nX (⟨r1,0⟩:Av_) ?_ trivial ⟨rfl,trivial⟩;exact⟨e25,(by first|(simp;done)|exact (hu _ (by omega)).1)⟩
   refine kA 1 ?_;refine nX (A8.get s.x.spent ((r).toNat)) ?_ trivial ⟨rfl,trivial⟩;exact⟨e29,(by first|(simp;done)|exact (hu _ (by omega)).1)⟩
 rintro x ⟨hp30,hp30_3⟩;have e31:=J1_ q_o hp30;refine kA 3 ?_;refine aN [3,4,5,6,7,8] 10 mixd<|kE [0,1,2,3,4,5] 4 ?_;have hc32:=getG (xs:=s.K_.grants) (k:=(r).toNat) (by omega);refine vq 6 (qidx G_ (r).toNat rfl rfl (by omega) hc32 rfl rfl rfl rfl) rfl (by kernel_rfl) rfl λw33=>kE [7,8,9] 0 ?_;refine vD<|kA 1 ?_;refine cD e31 (λp35 e36=>?_) (λp38 e39=>?_)
 . refine kB 9 [] λ_=>?_;subst e36;exact qr2
 refine kD 17 [] λ_=>?_;refine q1 (qaia (r).toNat rfl rfl underlying50 sz49 (by omega) (by omega)) rfl λw41=>ef (Sa_ (sz:=2) (len:=8) (λq=>E_.pc (⟨(⟨s.x.book,s.x.D_,s.x.notes,s.x.seen,(A8.set s.x.spent (⟨x.round,(x.count+1)⟩:Av_) q)⟩:U_),s.K_,s.place⟩:E_)) ((r).toNat) 55 2 0 G_ rfl rfl rfl rfl rfl rfl rfl rfl rfl (by omega) (bw8 rfl rfl rfl rfl rfl rfl rfl rfl) rfl (bw8 rfl rfl rfl rfl rfl rfl rfl rfl) rfl ?_);refine kA 3 ?_;refine aN [1,3,4,5,6,7,8] 12 mixd<|kE [0,1,2,3,4,5] 6 ?_;have hc42:=getG (xs:=s.K_.places) (k:=(to_).toNat) (by omega);refine vq 6 (qidx G_ (to_).toNat rfl rfl (by omega) hc42 rfl rfl rfl rfl) rfl (by kernel_rfl) rfl λw43=>kE [7,8] 3 ?_;refine vE 9 rfl (eC (Gq_ (⟨(⟨s.x.book,s.x.D_,s.x.notes,s.x.seen,(A8.set s.x.spent (⟨x.round,(x.count+1)⟩:Av_) ((r).toNat))⟩:U_),s.K_,s.place⟩:E_) _ _ _) rfl ?_);generalize hr45:C2_ (⟨(⟨s.x.book,s.x.D_,s.x.notes,s.x.seen,(A8.set s.x.spent (⟨x.round,(x.count+1)⟩:Av_) ((r).toNat))⟩:U_),s.K_,s.place⟩:E_) tick 2 ((gt s.K_.places ((to_).toNat)).name)=r2;intro w44;have e46:=e39.trans (C3_ hr45.symm);have hr45:=hr45.symm
 (try have hA46:=Kn_ (s:=(⟨(⟨s.x.book,s.x.D_,s.x.notes,s.x.seen,(A8.set s.x.spent (⟨x.round,(x.count+1)⟩:Av_) ((r).toNat))⟩:U_),s.K_,s.place⟩:E_)) (t:=tick) (k:=2) (x:=((gt s.K_.places ((to_).toNat)).name)) (by first|assumption|exact D0_ (by assumption));(try rw[<- hr45] at hA46);obtain⟨hA46_0,hA46_1⟩:=hA46)
 refine vT 10 rfl (sA G_ ?_);refine kE [11] 0 ?_;refine vD<|kA 2 ?_;subst e46;exact qr2
theorem N8_ (s:E_) (d:L_) (hs:StOk s:=by assumption):Fn prog gb 34 [.agg (E_.pc s), .agg (L_.pc d)] (.tup [.agg (E_.pc ((A2_ s d).1)), .int .i64 ((A2_ s d).2)]):=by
 refine kG func34 ntmps34 λw N H hG=>?_;have hs0:=hs;obtain⟨⟨⟨hb1,hb2,hb3⟩,hk0,hn,hu⟩,hp0,hq1,hq2⟩:=hs0;have hpp:=hp0;obtain⟨hp1,hp2,hp3,hp4,hp5,hp6,hp7⟩:=hpp;have hk1:=hk0;obtain⟨⟨hr1,hr2,hr3⟩,hr4,hr5,hr6⟩:=hk1;have e0:=A2_.eq_1 s d;generalize A2_ s d=z at e0 ⊢;refine kB 21 [0,1,2] λB2=>?_;refine cD e0 (λp6 e7=>?_) (λp13 e14=>?_)
 . refine kA 7 ?_;refine cV e7 R11_ (Jc_ _ _) rfl λr hr8 e10 w9=>?_;have hA10:=M2_ (q:=d.queue) (s:=s.x.D_) (by first|assumption|exact StOk.stk (by assumption))
   (try rw[<- hr8] at hA10)
   refine kB 19 [] λ_=>?_;subst e10;exact qr2
 refine kA 10 ?_;refine cV e14 R11_ (Pb_ _ _) rfl λr1 hr15 e17 w16=>?_;have hA17:=Wr_ (n:=d.name) (s:=s.x.D_) (by first|assumption|exact StOk.stk (by assumption))
 (try rw[<- hr15] at hA17)
 refine kB 15 [] λ_=>?_;refine cD e17 (λp21 e22=>?_) (λp27 e28=>?_)
 . refine kA 6 ?_;refine cV e22 R12_ (Os_ _ _) rfl λr2 hr23 e25 w24=>kB 14 [] λ_=>?_;subst e25;exact qr2
 refine kB 11 [] λ_=>?_;subst e28;exact qr2
theorem Pi_ (s:E_) (d:L_) (hs:StOk s:=by assumption):Fn prog gb 36 [.agg (E_.pc s), .agg (L_.pc d)] (.tup [.agg (E_.pc ((Du_ s d).1)), .agg (Bh_.pc ((Du_ s d).2.1)), .int .i64 ((Du_ s d).2.2)]):=by
 refine kG func36 ntmps36 λw N H hG=>?_;have hs0:=hs;obtain⟨⟨⟨hb1,hb2,hb3⟩,hk0,hn,hu⟩,hp0,hq1,hq2⟩:=hs0;have hpp:=hp0;obtain⟨hp1,hp2,hp3,hp4,hp5,hp6,hp7⟩:=hpp;have hk1:=hk0;obtain⟨⟨hr1,hr2,hr3⟩,hr4,hr5,hr6⟩:=hk1;have e0:=Du_.eq_1 s d;generalize Du_ s d=z at e0 ⊢;refine kB 17 [0,1,2,3] λB2=>?_;refine cV e0 R13_ (F5_ _ _) rfl λr hr6 e8 w7=>kB 14 [4] λB10=>?_;refine cE e8 (λh11 e13=>?_) (λh11 e16=>?_)
 . have h12:=E7_ h11;refine kB 11 [] λ_=>?_;subst e13;exact qr3
 have h15:=Eu_ h11;refine kA 9 ?_;refine cV e16 R14_ (Pd_ _ _) rfl λr1 hr17 e19 w18=>?_
 (try have hA19:=klend_ok (s:=s.x.D_) (n:=d.name) (by first|assumption|exact StOk.stk (by assumption));(try rw[<- hr17] at hA19);obtain⟨hA19_0,hA19_1⟩:=hA19)
 refine kB 18 [5,6] λB22=>?_;refine cE e19 (λh24 e26=>?_) (λh24 e29=>?_)
 . have h25:=E7_ h24;refine kB 11 [] λ_=>?_;subst e26;exact qr3
 have h28:=Eu_ h24;refine kB 11 [] λ_=>?_;refine aN [2,3,7,8,9,10,11,12] 6 mixd<|kE [0,1,2] 3 ?_;refine vE 3 rfl (sA G_ ?_);refine vT 4 rfl (sA G_ ?_);refine kE [5] 0 ?_;refine vD<|kA 2 ?_;subst e29;exact qr3
theorem Ow_ (s:E_) (d:L_) (hs:StOk s:=by assumption) (hd:DdOk d:=by assumption):Fn prog gb 43 [.agg (E_.pc s), .agg (L_.pc d)] (.tup [.agg (E_.pc ((Ax_ s d).1)), .int .i64 ((Ax_ s d).2)]):=by
 refine kG func43 ntmps43 λw N H hG=>?_;have hs0:=hs;obtain⟨⟨⟨hb1,hb2,hb3⟩,hk0,hn,hu⟩,hp0,hq1,hq2⟩:=hs0;have hpp:=hp0;obtain⟨hp1,hp2,hp3,hp4,hp5,hp6,hp7⟩:=hpp;have hk1:=hk0;obtain⟨⟨hr1,hr2,hr3⟩,hr4,hr5,hr6⟩:=hk1;have hd0:=hd;obtain⟨hd1,hd2,hd3,hd4⟩:=hd0;have e0:=Ax_.eq_1 s d;generalize Ax_ s d=z at e0 ⊢;refine kB 27 [0,1,2] λB2=>?_;refine cD e0 (λp6 e7=>?_) (λp42 e43=>?_)
 . refine kA 1 ?_;obtain⟨o,e_o,q_o⟩:=Ny_ e7;refine Ii_ (ι:=Unit) [2,3,4] [0,1,2] (λ_=>[]) (λ_=>[]) (λ_=>o = .fin ()) ?_ ?_
   . refine kA 7 ?_;refine cV e_o R0_ (G4_ _ _) rfl λr hr8 e10 w9=>?_;have hA10:=find_b s.K_ d.Bb_.to'
     (try rw[<- hr8] at hA10)
     refine kA 11 ?_;refine cD e10 (λp13 e14=>?_) (λp34 e35=>?_)
     . refine kA 8 ?_;refine cD e14 (λp16 e17=>?_) (λp20 e21=>?_)
       . refine kB 13 [] λ_=>?_;have e19:=Km_ q_o e17;subst e19;exact qr2
       refine kA 7 ?_;refine cV e21 R0_ (H7_ _ _ _) rfl λr1 hr22 e24 w23=>?_;have hA24:=Wj_ s.K_ s.place r
       (try rw[<- hr22] at hA24)
       (try have hA25:=Wk_ (p:=s.K_) (by first|assumption|exact StOk.pol (by assumption)) s.place r;(try rw[<- hr22] at hA25))
       refine kA 4 ?_;refine cD e24 (λp28 e29=>?_) (λp32 e33=>?_)
       . refine kB 13 [] λ_=>?_;have e31:=Km_ q_o e29;subst e31;exact qr2
       refine kA 2 ?_;refine nX () ?_ trivial trivial;exact e33
     refine kA 1 ?_;refine nX () ?_ trivial trivial;exact e35
   rintro _ hp36;have e37:=Tk_ q_o hp36;refine kA 7 ?_;refine cV e37 R15_ (L2_ _ _) rfl λr2 hr38 e40 w39=>kB 19 [] λ_=>?_;subst e40;exact qr2
 refine kA 6 ?_;refine cD e43 (λp45 e46=>?_) (λp51 e52=>?_)
 . refine kA 6 ?_;refine cV e46 R15_ (Qg_ _ _) rfl λr3 hr47 e49 w48=>kB 19 [] λ_=>?_;subst e49;exact qr2
 refine kA 6 ?_;refine cD e52 (λp54 e55=>?_) (λp60 e61=>?_)
 . refine kA 6 ?_;refine cV e55 R15_ (Ot_ _ _) rfl λr4 hr56 e58 w57=>kB 19 [] λ_=>?_;subst e58;exact qr2
 refine kA 8 ?_;refine cV e61 R13_ (F5_ _ _) rfl λr5 hr62 e64 w63=>kB 9 [3] λB66=>?_;obtain⟨o1,e_o1,q_o1⟩:=Ny_ e64;refine Ii_ (ι:=Unit) [2,3,4] [0,1,2,3] (λ_=>[]) (λ_=>[]) (λ_=>o1 = .fin ()) ?_ ?_
 . refine kA 7 ?_;refine cV e_o1 R0_ (G4_ _ _) rfl λr6 hr67 e69 w68=>?_;have hA69:=find_b s.K_ d.bind.to'
   (try rw[<- hr67] at hA69)
   refine kA 5 ?_;obtain⟨o2,e_o2,q_o2⟩:=Hl_ e69;refine Ii_ (ι:=Bool) [2,3,4,5,10] [0,1,2,3] (λv=>[(29, .bool v)]) (λv=>[]) (λv=>o2=v) ?_ ?_
   . refine kC 12 ?_;refine cE e_o2 (λh71 e75=>?_) (λh71 e76=>?_)
     . have h72:=bl h71;have h73:=br h71;have p74:=dt h73;refine kA 1 ?_;refine nX (d.bind.up&&(decide (r6<0))) ?_ ⟨rfl,trivial⟩ trivial;exact e75
     refine kC 11 ?_;refine nX ((!d.bind.up)&&(!r5.2)) ?_ ⟨rfl,trivial⟩ trivial;exact e76
   rintro v hp77;have e78:=J1_ q_o2 hp77;refine kA 1 ?_;refine cE e78 (λh79 e80=>?_) (λh79 e83=>?_)
   . refine kB 13 [] λ_=>?_;have e82:=Km_ q_o1 e80;subst e82;exact qr2
   refine kC 11 ?_;refine callg rfl (λhc=>(H6_ _ _ _)) rfl ⟨(λhc=>hc),(λhc=>hc),(λhc=>hc),trivial⟩ rfl rfl λ_=>kC 5 ?_;refine cE e83 (λh84 e88=>?_) (λh84 e91=>?_)
   . have h85:=bl h84;have h86:=br h84;have h87:=E7_ h86;refine kB 13 [] λ_=>?_;have e90:=Km_ q_o1 e88;subst e90;exact qr2
   refine kA 2 ?_;refine nX () ?_ trivial trivial;exact e91
 rintro _ hp92;have e93:=Tk_ q_o1 hp92;refine kA 7 ?_;refine cV e93 R15_ (Jr_ _ _) rfl λr7 hr94 e96 w95=>kB 19 [] λ_=>?_;subst e96;exact qr2
abbrev R16_:((List Bs)×(List Bs)×Int)->PV:=λr=> .tup [.sl strc r.1, .sl strc r.2.1, .int .i64 r.2.2]
abbrev R17_:(F_×Int×Mail×Int)->PV:=λr=> .tup [.agg (F_.pc r.1), .int .u64 r.2.1, .agg (Mail.pc r.2.2.1), .int .i64 r.2.2.2]
abbrev R18_:(E_×Int)->PV:=λr=> .tup [.agg (E_.pc r.1), .int .i64 r.2]
theorem cb99:Ad_ prog 99:=Aa_ func99 (by kernel_rfl) (by kernel_rfl)
theorem Gr_ (s:E_) (m:Mail) (tick:Int) (hs:StOk s:=by assumption) (hm:m.head.length<=1000/\m.key.length<=1000:=by omega):Fo prog gb 99 [.agg (E_.pc s), .agg (Mail.pc m), .int .u64 tick] (λu=> .tup [.agg (E_.pc ((Ag_ s m tick).1)), .val u, .int .i64 ((Ag_ s m tick).2.2.1), .int .i64 ((Ag_ s m tick).2.2.2)]) 8 199 Hp_.pc ((Ag_ s m tick).2.1):=by
 refine Wf_ G_ func99 rfl ntmps99 rfl cb99 (λ_=>rfl) rfl λw N H hG=>?_;have m_hops_r:0<=m.hops/\m.hops<=255:=w.2.1.2.2.2.2.2.2.1;have hs0:=hs;obtain⟨⟨⟨hb1,hb2,hb3⟩,hk0,hn,hu⟩,hp0,hq1,hq2⟩:=hs0;have hpp:=hp0;obtain⟨hp1,hp2,hp3,hp4,hp5,hp6,hp7⟩:=hpp;have hk1:=hk0;obtain⟨⟨hr1,hr2,hr3⟩,hr4,hr5,hr6⟩:=hk1;have hbk:=hs.1.1;have e0:=Ag_.eq_1 s m tick;refine kB 28 [0,1,2,3] λB2=>?_;refine cV e0 R16_ (Lk_ _ _ _ _ (hk:=by omega) (hr:=by exact λy hy=>by have :=hb3 y hy;omega)) rfl λr hr6 e8 w7=>?_
 (try have hA8:=Te_ (b:=s.x.book) m.Bb_ m.key m.head (by assumption);(try rw[<- hr6] at hA8);obtain⟨hA8_0,hA8_1⟩:=hA8)
 refine kA 16 ?_;refine cN e8 (λp12 e13=>?_) (λp16 e17=>?_)
 . refine kB 10 [] λ_=>?_;refine sw_own (t:=7) (k:=8) (e:=199) 4 Hp_.pc rfl rfl ?_;refine sw_val (t:=7) (i:=4) rfl rfl<|kA 2 ?_;refine roN (j:=4) (.slice none 0 0) rfl rfl rfl rfl ?_ ?_
   . exact (congrArg (λr:E_×(List Hp_)×Int×Int=>r.2.1) e13).symm
   exact Am_ (λr:E_×(List Hp_)×Int×Int=> .tup [.agg (E_.pc r.1), .val (.slice none 0 0), .int .i64 r.2.2.1, .int .i64 r.2.2.2]) e13 (ple rfl)
 refine kA 9 ?_;refine call (Po_ _ _) rfl rfl λw18=>kB 33 [4] λB20=>?_;refine sw_own (t:=16) (k:=8) (e:=199) 5 Hp_.pc rfl rfl ?_;refine loop (ι:=Nat×(List Hp_)×Int×E_×Value) [2,3,4,6,10,12,14,59,60] [1,2,3,4] (λ⟨k,gone,n,x,u_gone⟩=>[(61, .int .i64 (k:Int)),(16, .osl 5),(17, .int .i64 n)]) (λ⟨k,gone,n,x,u_gone⟩=>[(5, .arr u_gone 8 199 Hp_.pc gone),(0, .box (B2 0) 54 (E_.pc x))]) (λ⟨k,gone,n,x,u_gone⟩=>k<=r.1.length/\Ag_ s m tick=Au_ s m tick r (r.1.drop k) gone n x/\gone.length<=k/\0<=n/\n<=k/\StOk x) (λ⟨k,gone,n,x,u_gone⟩=>r.1.length-k) ⟨0,[],0,s,(.slice none 0 0)⟩ ⟨rfl,rfl,rfl,trivial⟩ ⟨rfl,rfl,trivial⟩ ?_ ?_
 . exact⟨Nat.zero_le _,e17,⟨by simp,by omega,by omega,by assumption⟩⟩
 rintro⟨k,gone,n,x,u_gone⟩ ⟨hp21_1,hp21_2,hp21_3⟩;obtain⟨hi1,hi2,hi3,hi4⟩:=hp21_3;refine kA 6 ?_;refine cn rfl (λp23=>?_) λp69=>?_
 . have e24:=C5_ (f:=λzz=>Au_ s m tick r zz gone n x) hp21_2 (Gs_ (by omega)) (Au_.eq_2 _ _ _ _ _ _ _ _ _);have hc25:=getG (xs:=r.1) (k:=k) (by omega);refine kA 6 ?_;refine kI k hc25 λw26=>?_;refine kA 10 ?_;refine cV e24 R13_ (F5_ _ _) rfl λr1 hr27 e29 w28=>kB 15 [6] λB31=>?_;refine cE e29 (λh32 e34=>?_) (λh32 e36=>?_)
   . have h33:=E7_ h32;refine kC 8 ?_;refine next ⟨(k+1),gone,n,x,(u_gone)⟩ rfl rfl ⟨rfl,rfl,rfl,trivial⟩ ⟨rfl,rfl,trivial⟩ ?_ ?_
     . (try simp only[]);omega
     exact⟨by (try simp only[]);omega,e34,⟨by (try simp only[List.length_append,List.length_cons,List.length_nil]);omega,by omega,by omega,by first|assumption|exact Cz_ (by assumption) (by assumption)⟩⟩
   have h35:=Eu_ h32;refine kB 16 [7] λB38=>?_;refine cV e36 R10_ (Z0_ _ _ _) rfl λr2 hr39 e41 w40=>kB 11 [] λ_=>?_;refine cV e41 R17_ (L4_ _ _ (⟨0,m.Bb_,m.key,m.head,m.body,r2,m.hops⟩:Mail) (hh:=by dsimp only;omega)) rfl λr3 hr43 e45 w44=>?_
   (try have hA45:=Wv_ (s:=x.x.D_) (n:=(gt r.1 k)) (m:=(⟨0,m.Bb_,m.key,m.head,m.body,r2,m.hops⟩:Mail)) (by first|assumption|exact StOk.stk (by assumption)) (by (try simp only[]);omega);(try rw[<- hr43] at hA45);obtain⟨hA45_0,hA45_1,hA45_2⟩:=hA45)
   refine kB 20 [8,9] λB48=>?_;refine cN e45 (λp52 e53=>?_) (λp56 e57=>?_)
   . refine kB 10 [] λ_=>?_;refine sw_own (t:=7) (k:=8) (e:=199) 10 Hp_.pc rfl rfl ?_;refine sw_val (t:=7) (i:=10) rfl rfl<|kA 7 ?_;refine roN (j:=10) (.slice none 0 0) rfl rfl rfl rfl ?_ ?_
     . exact (congrArg (λr:E_×(List Hp_)×Int×Int=>r.2.1) e53).symm
     exact Am_ (λr:E_×(List Hp_)×Int×Int=> .tup [.agg (E_.pc r.1), .val (.slice none 0 0), .int .i64 r.2.2.1, .int .i64 r.2.2.2]) e53 (ple rfl)
   refine kA 10 ?_;refine cN e57 (λp60 e61=>?_) (λp66 e67=>?_)
   . refine kA 5 ?_;refine ef (bsl 10 Hp_.pc [(⟨(gt r.1 k),r3.2.2.1⟩:Hp_)] G_ rfl rfl rfl rfl rfl (λ_=>rfl) rfl (by decide) (by decide) rfl λu62=>?_);refine ef (app G_ [(⟨(gt r.1 k),r3.2.2.1⟩:Hp_)] rfl rfl rfl rfl rfl rfl rfl rfl rfl (src_o rfl rfl) (by first|omega|(simp;omega)) rfl λu63=>?_);refine kD 22 [] λ_=>?_;refine next ⟨(k+1),(gone++[(⟨(gt r.1 k),r3.2.2.1⟩:Hp_)]),(n+1),(⟨(⟨x.x.book,r3.1,x.x.notes,x.x.seen,x.x.spent⟩:U_),x.K_,x.place⟩:E_),(u63)⟩ rfl rfl ⟨rfl,rfl,rfl,trivial⟩ ⟨rfl,rfl,trivial⟩ ?_ ?_
     . (try simp only[]);omega
     exact⟨by (try simp only[]);omega,e61,⟨by (try simp only[List.length_append,List.length_cons,List.length_nil]);omega,by omega,by omega,by first|assumption|exact Cz_ (by assumption) (by assumption)⟩⟩
   refine kD 21 [] λ_=>?_;refine next ⟨(k+1),gone,(n+1),(⟨(⟨x.x.book,r3.1,x.x.notes,x.x.seen,x.x.spent⟩:U_),x.K_,x.place⟩:E_),(u_gone)⟩ rfl rfl ⟨rfl,rfl,rfl,trivial⟩ ⟨rfl,rfl,trivial⟩ ?_ ?_
   . (try simp only[]);omega
   exact⟨by (try simp only[]);omega,e67,⟨by (try simp only[List.length_append,List.length_cons,List.length_nil]);omega,by omega,by omega,by first|assumption|exact Cz_ (by assumption) (by assumption)⟩⟩
 have e70:=C5_ (f:=λzz=>Au_ s m tick r zz gone n x) hp21_2 (Gy_ (by omega)) (Au_.eq_1 _ _ _ _ _ _ _);refine kA 14 ?_;refine loop (ι:=Nat×Int×E_) [2,3,4,6,10,14,16,113,114] [1,2,3,4,5] (λ⟨k1,n1,x1⟩=>[(115, .int .i64 (k1:Int)),(17, .int .i64 n1)]) (λ⟨k1,n1,x1⟩=>[(0, .box (B2 0) 54 (E_.pc x1))]) (λ⟨k1,n1,x1⟩=>k1<=r.2.1.length/\Ag_ s m tick=B2_ s m tick r gone (r.2.1.drop k1) n1 x1/\0<=n1/\n1<=40+k1/\StOk x1) (λ⟨k1,n1,x1⟩=>r.2.1.length-k1) ⟨0,n,x⟩ ⟨rfl,rfl,trivial⟩ ⟨rfl,trivial⟩ ?_ ?_
 . exact⟨Nat.zero_le _,e70,⟨by omega,by omega,by assumption⟩⟩
 rintro⟨k1,n1,x1⟩ ⟨hp71_1,hp71_2,hp71_3⟩;obtain⟨hj1,hj2,hj3⟩:=hp71_3;refine kA 6 ?_;refine cn rfl (λp73=>?_) λp115=>?_
 . have e74:=C5_ (f:=λzz=>B2_ s m tick r gone zz n1 x1) hp71_2 (Gs_ (by omega)) (B2_.eq_2 _ _ _ _ _ _ _ _ _);have hc75:=getG (xs:=r.2.1) (k:=k1) (by omega);refine kA 6 ?_;refine kI k1 hc75 λw76=>?_;refine kA 9 ?_;refine cV e74 R0_ (G4_ _ _) rfl λr4 hr77 e79 w78=>?_;have hA79:=find_b x1.K_ (gt r.2.1 k1)
   (try rw[<- hr77] at hA79)
   refine kA 4 ?_;obtain⟨o,e_o,q_o⟩:=lp1_split e79;refine Ii_ (ι:=E_) [2,3,4,6,10,14,16,17,29,113,114,115] [1,2,3,4,5] (λx2=>[]) (λx2=>[(0, .box (B2 0) 54 (E_.pc x2))]) (λx2=>o = .fin x2/\StOk x2) ?_ ?_
   . refine kA 7 ?_;refine cD e_o (λp82 e83=>?_) (λp98 e99=>?_)
     . refine kA 5 ?_;refine cV e83 R18_ (Ox_ _ _ _) rfl λr5 hr84 e86 w85=>?_
       (try have hA86:=spend_ok (s:=x1) (to':=r4) (t:=tick) (by assumption);(try rw[<- hr84] at hA86);obtain⟨hA86_0,hA86_1⟩:=hA86)
       refine kB 13 [] λ_=>?_;refine cN e86 (λp91 e92=>?_) (λp96 e97=>?_)
       . refine kB 10 [] λ_=>?_;refine sw_own (t:=7) (k:=8) (e:=199) 6 Hp_.pc rfl rfl ?_;refine sw_val (t:=7) (i:=6) rfl rfl<|kA 8 ?_;have e94:=lp1_ret q_o e92;refine roN (j:=6) (.slice none 0 0) rfl rfl rfl rfl ?_ ?_
         . exact (congrArg (λr:E_×(List Hp_)×Int×Int=>r.2.1) e94).symm
         exact Am_ (λr:E_×(List Hp_)×Int×Int=> .tup [.agg (E_.pc r.1), .val (.slice none 0 0), .int .i64 r.2.2.1, .int .i64 r.2.2.2]) e94 (ple rfl)
       refine kA 1 ?_;refine nX r5.1 ?_ trivial ⟨rfl,trivial⟩;exact⟨e97,by assumption⟩
     refine kA 1 ?_;refine nX x1 ?_ trivial ⟨rfl,trivial⟩;exact⟨e99,by assumption⟩
   rintro x2 ⟨hp100,hp100_3⟩;have e101:=lp1_fin q_o hp100;refine kA 9 ?_;refine cV e101 R11_ (Ov_ _ _ (⟨0,m.Bb_,m.key,m.head,m.body,m.due,m.hops⟩:Mail) (hh:=by dsimp only;omega)) rfl λr6 hr102 e104 w103=>?_
   (try have hA104:=Ya_ (s:=x2.x.D_) (p:=r4) (m:=(⟨0,m.Bb_,m.key,m.head,m.body,m.due,m.hops⟩:Mail)) (by first|assumption|exact StOk.stk (by assumption));(try rw[<- hr102] at hA104);obtain⟨hA104_0,hA104_1⟩:=hA104)
   refine kB 15 [] λ_=>?_;refine cN e104 (λp109 e110=>?_) (λp113 e114=>?_)
   . refine kB 10 [] λ_=>?_;refine sw_own (t:=7) (k:=8) (e:=199) 6 Hp_.pc rfl rfl ?_;refine sw_val (t:=7) (i:=6) rfl rfl<|kA 7 ?_;refine roN (j:=6) (.slice none 0 0) rfl rfl rfl rfl ?_ ?_
     . exact (congrArg (λr:E_×(List Hp_)×Int×Int=>r.2.1) e110).symm
     exact Am_ (λr:E_×(List Hp_)×Int×Int=> .tup [.agg (E_.pc r.1), .val (.slice none 0 0), .int .i64 r.2.2.1, .int .i64 r.2.2.2]) e110 (ple rfl)
   refine kC 13 ?_;refine next ⟨(k1+1),(n1+1),(⟨(⟨x2.x.book,r6.1,x2.x.notes,x2.x.seen,x2.x.spent⟩:U_),x2.K_,x2.place⟩:E_)⟩ rfl rfl ⟨rfl,rfl,trivial⟩ ⟨rfl,trivial⟩ ?_ ?_
   . (try simp only[]);omega
   exact⟨by (try simp only[]);omega,e114,⟨by omega,by omega,Cz_ (by assumption) (by assumption)⟩⟩
 have e116:=C5_ (f:=λzz=>B2_ s m tick r gone zz n1 x1) hp71_2 (Gy_ (by omega)) (B2_.eq_1 _ _ _ _ _ _ _);refine kB 16 [] λ_=>?_;refine sw_val (t:=7) (i:=5) rfl rfl<|kA 1 ?_;refine roN (j:=5) u_gone rfl rfl rfl rfl ?_ ?_
 . exact (congrArg (λr:E_×(List Hp_)×Int×Int=>r.2.1) e116).symm
 exact Am_ (λr:E_×(List Hp_)×Int×Int=> .tup [.agg (E_.pc r.1), .val u_gone, .int .i64 r.2.2.1, .int .i64 r.2.2.2]) e116 (ple rfl)
abbrev R19_:(F_×M_×Int)->PV:=λr=> .tup [.agg (F_.pc r.1), .agg (M_.pc r.2.1), .int .i64 r.2.2]
abbrev R20_:(Bs×Mail×Bool)->PV:=λr=> .tup [.str r.1, .agg (Mail.pc r.2.1), .bool r.2.2]
abbrev R21_:E_->PV:=λr=> .agg (E_.pc r)
abbrev R22_:(E_×Bh_×Int)->PV:=λr=> .tup [.agg (E_.pc r.1), .agg (Bh_.pc r.2.1), .int .i64 r.2.2]
abbrev R23_:(E_×Bh_)->PV:=λr=> .tup [.agg (E_.pc r.1), .agg (Bh_.pc r.2)]
theorem cb101:Ad_ prog 101:=Aa_ func101 (by kernel_rfl) (by kernel_rfl)
theorem fl199_0:Fld prog 199 0 0:=λb o w=>by kernel_rfl
theorem fl199_1:Fld prog 199 1 1:=λb o w=>by kernel_rfl
theorem sz36:Sz prog 36 1:=λw=>by kernel_rfl
theorem Hu_ (s:E_) (gone:List Hp_) (tick:Int) (hs:StOk s:=by assumption) (hg:gone.length<=600/\∀ g∈gone,MlOk g.Ab_:=by first|assumption|exact⟨by omega,by assumption⟩):Fx prog gb 101 (.agg (E_.pc s)) [.int .u64 tick] (.tup [.agg (E_.pc ((Cp_ s gone tick).1)), .int .i64 ((Cp_ s gone tick).2)]) 8 199 Hp_.pc gone:=by
 refine fx_cw G_ func101 rfl ntmps101 rfl cb101 rfl rfl λw gone_l u0 N H hG=>?_;have hs0:=hs;obtain⟨⟨⟨hb1,hb2,hb3⟩,hk0,hn,hu⟩,hp0,hq1,hq2⟩:=hs0;have hpp:=hp0;obtain⟨hp1,hp2,hp3,hp4,hp5,hp6,hp7⟩:=hpp;have hk1:=hk0;obtain⟨⟨hr1,hr2,hr3⟩,hr4,hr5,hr6⟩:=hk1;have hgg:=hg;obtain⟨hg1,hg2⟩:=hgg;have e0:=Cp_.eq_1 s gone tick;refine kB 14 [1,2] λB2=>?_;refine loop (ι:=Nat×(List Hp_)×Int×E_×Value) [2,3,6,7] [2] (λ⟨f,gone1,lost,x,u_gone1⟩=>[(1, .osl 0),(8, .int .i64 lost)]) (λ⟨f,gone1,lost,x,u_gone1⟩=>[(0, .arr u_gone1 8 199 Hp_.pc gone1),(1, .box (B2 0) 54 (E_.pc x))]) (λ⟨f,gone1,lost,x,u_gone1⟩=>wtk x.x.D_+wto gone1<f/\Cp_ s gone tick=Da_ tick f gone1 lost x/\Sf_ gone1 lost x) (λ⟨f,gone1,lost,x,u_gone1⟩=>f) ⟨(wtk s.x.D_+wto gone+1),gone,0,s,(u0)⟩ ⟨rfl,rfl,trivial⟩ ⟨rfl,rfl,trivial⟩ ?_ ?_
 . exact⟨Nat.lt_succ_self _,e0,buryI0 (by assumption) (by assumption)⟩
 rintro⟨f,gone1,lost,x,u_gone1⟩ ⟨hp4_1,hp4_2,hp4_3⟩;have hI:=hp4_3;obtain⟨hi1,hi2,hi3,hi4⟩:=hp4_3;obtain⟨f1,rfl⟩:∃ q,f=q+1:=⟨f-1,by omega⟩;have e_f1:=hp4_2.trans (Da_.eq_2 _ _ _ _ _);refine kA 8 ?_;refine cD e_f1 (λp6 e7=>?_) (λp64 e65=>?_)
 . refine kA 5 ?_;refine Ii_ (ι:=Nat) [1,2,3,6,7,8] [0,1,2] (λb8=>[(9, .own 3 b8 0)]) (λb8=>[(3, .box b8 59 (Q_.pc ((Ah_ x.x.D_ ((gt gone1 0).queue)).1)))]) (λb8=>PV.wf (.tup [.agg (Q_.pc ((Ah_ x.x.D_ ((gt gone1 0).queue)).1)), .bool ((Ah_ x.x.D_ ((gt gone1 0).queue)).2)])) ?_ ?_
   . refine aN [3,4,5,6,7,8,9,10] 14 mixd<|kE [0,1,2,3] 10 ?_;refine vq 4 (eidx 0 G_ rfl rfl rfl rfl rfl rfl rfl rfl (by omega)) rfl (by kernel_rfl) rfl λw9=>vq 5 (efld rfl fl199_0) rfl (by kernel_rfl) rfl λw10=>veL 6 [11] (by kernel_rfl) ⟨⟨_,rfl,?_⟩,⟨_,rfl,?_⟩,trivial⟩
     . have hc11:=getG (xs:=gone1) (k:=0) (by omega);have hz_hc11:=hi2 (gt gone1 0) (List.mem_of_getElem? hc11);have hy_hc11:=And.intro hz_hc11.1 hz_hc11.2.2.2;refine ej rfl (elod1 (i:=0) (.str ((gt gone1 0).queue)) 0 0 G_ rfl rfl rfl rfl hc11 rfl rfl rfl rfl λw12=>?_);refine vC 7 rfl (F5_ x.x.D_ _) rfl λw13=>kE [8,9,10] 3 ?_;refine vE 11 rfl (aL G_ 3 λb14=>?_);refine vE 12 rfl (sA G_ ?_);refine kE [13] 0 ?_;refine vD<|nX (b14) ?_ ⟨rfl,trivial⟩ ⟨rfl,trivial⟩;exact w13
     refine ej rfl (aL G_ 3 λb15=>?_);have hc16:=getG (xs:=gone1) (k:=0) (by omega);have hz_hc16:=hi2 (gt gone1 0) (List.mem_of_getElem? hc16);have hy_hc16:=And.intro hz_hc16.1 hz_hc16.2.2.2;refine vE 6 rfl (elod1 (i:=0) (.str ((gt gone1 0).queue)) 0 0 G_ rfl rfl rfl rfl hc16 rfl rfl rfl rfl λw17=>?_);refine vC 7 rfl (F5_ x.x.D_ _) rfl λw18=>kE [8,9,10] 2 ?_;refine vE 12 rfl (sA G_ ?_);refine kE [13] 0 ?_;refine vD<|nX (b15) ?_ ⟨rfl,trivial⟩ ⟨rfl,trivial⟩;exact w18
   generalize hr19:Ah_ x.x.D_ ((gt gone1 0).queue)=r;rintro b8 w20;have e21:=e7.trans (C3_ hr19.symm);refine kA 9 ?_;refine cD e21 (λp23 e24=>?_) (λp26 e27=>?_)
   . refine kA 6 ?_;refine ef (ecut1 G_ rfl rfl rfl rfl rfl rfl rfl rfl (by omega) (by first|omega|(simp only[List.length_append];omega)) rfl λu25=>?_);refine kA 2 ?_;refine next ⟨f1,(gone1.drop 1),lost,x,(u25)⟩ rfl rfl ⟨rfl,rfl,trivial⟩ ⟨rfl,rfl,trivial⟩ ?_ ?_
     . (try simp only[]);omega
     exact⟨(by first|exact Us_ (by omega) (by omega)|exact Xq_ (by assumption) (by omega) (by omega)|exact Ut_ (m:=_) (by omega) (by omega) (by first|assumption|exact Eq.symm (by assumption)) (by assumption) (by assumption) (by assumption) rfl (by assumption)),e24,(by first|exact Si_ (by assumption) (by omega)|exact Sj_ (by assumption) (by assumption) (by assumption) (by omega)|exact Sk_ (m:=_) (by assumption) (by assumption) (by assumption) (by omega) (by first|assumption|exact Eq.symm (by assumption)) (by assumption) (by assumption) (by assumption) rfl (by assumption))⟩
   refine kA 5 ?_;refine q1 (eidx 0 G_ rfl rfl rfl rfl rfl rfl rfl rfl (by omega)) rfl λw28=>q1 (efld rfl fl199_1) rfl λw29=>?_;have hc30:=getG (xs:=gone1) (k:=0) (by omega);have hz_hc30:=hi2 (gt gone1 0) (List.mem_of_getElem? hc30);have hy_hc30:=And.intro hz_hc30.1 hz_hc30.2.2.2;refine ef (elodA (i:=0) [.int .u64 ((gt gone1 0).Ab_.id), .str ((gt gone1 0).Ab_.Bb_), .str ((gt gone1 0).Ab_.key), .sl Pair.pc ((gt gone1 0).Ab_.head), .str ((gt gone1 0).Ab_.body), .int .u64 ((gt gone1 0).Ab_.due), .int .u8 ((gt gone1 0).Ab_.hops)] 0 1 G_ rfl rfl rfl rfl rfl hc30 rfl rfl (by decide) rfl λw31=>?_);refine cV e27 R1_ (G3_ _) rfl λr1 hr32 e34 w33=>?_;have hA34:=Xt_ ((gt gone1 0).Ab_)
   (try rw[<- hr32] at hA34)
   have :=wr_u8 (r1.hops+1);refine kB 28 [4] λB37=>?_;refine ef (ecallo 5 (Gr_ _ (⟨r1.id,(r.1).dead,r1.key,r1.head,r1.body,0,(IntKind.wrap .u8 (r1.hops+1))⟩:Mail) _ (hm:=by dsimp only;exact⟨by omega,by omega⟩)) rfl rfl ?_);generalize hr40:Ag_ x (⟨r1.id,(r.1).dead,r1.key,r1.head,r1.body,0,(IntKind.wrap .u8 (r1.hops+1))⟩:Mail) tick=r2;intro u39 w38;have e41:=e34.trans (C3_ hr40.symm);have hr40:=hr40.symm
   (try have hA41:=Nc_ (s:=x) (m:=(⟨r1.id,(r.1).dead,r1.key,r1.head,r1.body,0,(IntKind.wrap .u8 (r1.hops+1))⟩:Mail)) (tick:=tick) (by first|assumption|exact D0_ (by assumption)) (by (try dsimp only);first|omega|exact Nf_ _);(try rw[<- hr40] at hA41);obtain⟨hA41_0,hA41_1,hA41_2⟩:=hA41)
   (try have hA42:=Nb_ (s:=x) (m:=(⟨r1.id,(r.1).dead,r1.key,r1.head,r1.body,0,(IntKind.wrap .u8 (r1.hops+1))⟩:Mail)) (tick:=tick) (by first|assumption|exact D0_ (by assumption));(try rw[<- hr40] at hA42))
   refine kD 24 [6] λB45=>?_;refine cE e41 (λh46 e47=>?_) (λh46 e61=>?_)
   . refine kA 1 ?_;refine aN [7,8,9,10,11,12] 8 mixd<|kE [0,1,2] 5 ?_;refine vq 3 (eidx 0 G_ rfl rfl rfl rfl rfl rfl rfl rfl (by omega)) rfl (by kernel_rfl) rfl λw48=>vq 4 (efld rfl fl199_0) rfl (by kernel_rfl) rfl λw49=>vE 5 rfl (elod1 (i:=0) (.str ((gt gone1 0).queue)) 0 0 G_ rfl rfl rfl rfl hc30 rfl rfl rfl rfl λw50=>?_);refine vE 6 rfl (eC (Gq_ x _ _ _ (hn:=by exact st_nts (by first|assumption|exact D0_ (by assumption)))) rfl ?_);generalize hr52:C2_ x tick 1 ((gt gone1 0).queue)=r3;intro w51;have e53:=e47.trans (C3_ hr52.symm);have hr52:=hr52.symm
     (try have hA53:=Kn_ (s:=x) (t:=tick) (k:=1) (x:=((gt gone1 0).queue)) (by first|assumption|exact D0_ (by assumption));(try rw[<- hr52] at hA53);obtain⟨hA53_0,hA53_1⟩:=hA53)
     refine vT 7 rfl (sA G_ ?_);refine vD<|kC 14 ?_;refine ef (ecut1 G_ rfl rfl rfl rfl rfl rfl rfl rfl (by omega) (by first|omega|(simp only[List.length_append];omega)) rfl λu55=>?_);refine kA 2 ?_;refine next ⟨f1,(gone1.drop 1),(lost+1),r3,(u55)⟩ rfl rfl ⟨rfl,rfl,trivial⟩ ⟨rfl,rfl,trivial⟩ ?_ ?_
     . (try simp only[]);omega
     exact⟨(by first|exact Us_ (by omega) (by omega)|exact Xq_ (by assumption) (by omega) (by omega)|exact Ut_ (m:=_) (by omega) (by omega) (by first|assumption|exact Eq.symm (by assumption)) (by assumption) (by assumption) (by assumption) rfl (by assumption)),e53,(by first|exact Si_ (by assumption) (by omega)|exact Sj_ (by assumption) (by assumption) (by assumption) (by omega)|exact Sk_ (m:=_) (by assumption) (by assumption) (by assumption) (by omega) (by first|assumption|exact Eq.symm (by assumption)) (by assumption) (by assumption) (by assumption) rfl (by assumption))⟩
   have h56:=orl h46;have p57:=df h56;have h58:=orr h46;have h59:=Eu_ h58;have p60:=dt h59;refine kA 2 ?_;refine sw_osl (t:=13) 5 rfl rfl ?_;refine aN [0,1,7,8,9,10,11,12] 6 mixd<|kE [0,1,2] 3 ?_;refine vE 3 rfl (app G_ r2.2.1 rfl rfl rfl rfl rfl rfl rfl rfl rfl (src_o rfl rfl) (by have :=app_fit (by assumption) (by assumption) (by assumption);(try dsimp only);omega) rfl λu62=>?_);refine vtp 4 rfl (by kernel_rfl) (by kernel_rfl) (sA G_ ?_);refine kE [5] 0 ?_;refine vD<|kA 4 ?_;refine ef (ecut1 G_ rfl rfl rfl rfl rfl rfl rfl rfl (by omega) (by first|omega|(simp only[List.length_append];omega)) rfl λu63=>?_);refine kA 2 ?_;refine next ⟨f1,((gone1++r2.2.1).drop 1),lost,r2.1,(u63)⟩ rfl rfl ⟨rfl,rfl,trivial⟩ ⟨rfl,rfl,trivial⟩ ?_ ?_
   . (try simp only[]);omega
   exact⟨(by first|exact Us_ (by omega) (by omega)|exact Xq_ (by assumption) (by omega) (by omega)|exact Ut_ (m:=_) (by omega) (by omega) (by first|assumption|exact Eq.symm (by assumption)) (by assumption) (by assumption) (by assumption) rfl (by assumption)),e61,(by first|exact Si_ (by assumption) (by omega)|exact Sj_ (by assumption) (by assumption) (by assumption) (by omega)|exact Sk_ (m:=_) (by assumption) (by assumption) (by assumption) (by omega) (by first|assumption|exact Eq.symm (by assumption)) (by assumption) (by assumption) (by assumption) rfl (by assumption))⟩
 refine kB 14 [] λ_=>?_;exact rt2 rfl rfl (Am_ (λr:E_×Int=> .tup [.agg (E_.pc r.1), .int .i64 r.2]) e65 (ple rfl))
theorem N9_ (s:E_) (d:L_) (hs:StOk s:=by assumption):Fn prog gb 37 [.agg (E_.pc s), .agg (L_.pc d)] (.tup [.agg (E_.pc ((Dm_ s d).1)), .agg (Bh_.pc ((Dm_ s d).2.1)), .int .i64 ((Dm_ s d).2.2)]):=by
 refine kG func37 ntmps37 λw N H hG=>?_;have hs0:=hs;obtain⟨⟨⟨hb1,hb2,hb3⟩,hk0,hn,hu⟩,hp0,hq1,hq2⟩:=hs0;have hpp:=hp0;obtain⟨hp1,hp2,hp3,hp4,hp5,hp6,hp7⟩:=hpp;have hk1:=hk0;obtain⟨⟨hr1,hr2,hr3⟩,hr4,hr5,hr6⟩:=hk1;have e0:=Dm_.eq_1 s d;generalize Dm_ s d=z at e0 ⊢;refine kB 18 [0,1,2,3] λB2=>?_;refine cV e0 R11_ (Pa_ _ _ _) rfl λr hr6 e8 w7=>?_;have hA8:=kback_ok (s:=s.x.D_) (n:=d.name) (id:=d.id) (by first|assumption|exact StOk.stk (by assumption))
 (try rw[<- hr6] at hA8)
 refine kB 15 [4] λB11=>?_;refine cN e8 (λp14 e15=>?_) (λp18 e19=>?_)
 . refine kB 12 [] λ_=>?_;subst e15;exact qr3
 refine kA 10 ?_;refine cD e19 (λp21 e22=>?_) (λp24 e25=>?_)
 . refine kB 19 [] λ_=>?_;subst e22;exact qr3
 refine kA 11 ?_;refine cV e25 R19_ (Kj_ _ _ _) rfl λr1 hr26 e28 w27=>?_
 (try have hA28:=K4_ (s:=s.x.D_) (n:=d.name) (id:=d.id) (by first|assumption|exact StOk.stk (by assumption));(try rw[<- hr26] at hA28);obtain⟨hA28_0,hA28_1⟩:=hA28)
 refine kB 32 [5,6,7] λB31=>?_;refine cD e28 (λp35 e36=>?_) (λp40 e41=>?_)
 . refine kA 7 ?_;refine ef (bsl 8 Hp_.pc [(⟨d.name,r1.2.1.Ab_⟩:Hp_)] G_ rfl rfl rfl rfl rfl (λ_=>rfl) rfl (by decide) (by decide) rfl λu37=>?_);refine kA 2 ?_;refine ef (ecallx (Hu_ (⟨(⟨s.x.book,r1.1,s.x.notes,s.x.seen,s.x.spent⟩:U_),s.K_,s.place⟩:E_) _ _ (hs:=by exact Cz_ (by assumption) (by assumption)) (hg:=by exact⟨by simp,λg hg=>by rw[List.mem_singleton.1 hg];assumption⟩)) rfl rfl rfl rfl rfl rfl rfl λw38=>?_);refine kB 9 [] λ_=>?_;refine aN [2,3,8,9,10,11,12,13] 5 mixd<|kE [0,1] 3 ?_;refine vE 2 rfl (sA G_ ?_);refine vT 3 rfl (sA G_ ?_);refine kE [4] 0 ?_;refine vD<|kA 2 ?_;subst e36;exact qr3
 refine kA 3 ?_;refine aN [2,3,8,9,10,11,12,13] 5 mixd<|kE [0,1] 3 ?_;refine vE 2 rfl (sA G_ ?_);refine vT 3 rfl (sA G_ ?_);refine kE [4] 0 ?_;refine vD<|kA 2 ?_;subst e41;exact qr3
theorem Ph_ (s:E_) (tick:Int) (hs:StOk s:=by assumption):Fn prog gb 38 [.agg (E_.pc s), .int .u64 tick] (.tup [.agg (E_.pc ((F2_ s tick).1)), .agg (Bh_.pc ((F2_ s tick).2))]):=by
 refine kG func38 ntmps38 λw N H hG=>?_;have hs0:=hs;obtain⟨⟨⟨hb1,hb2,hb3⟩,hk0,hn,hu⟩,hp0,hq1,hq2⟩:=hs0;have hpp:=hp0;obtain⟨hp1,hp2,hp3,hp4,hp5,hp6,hp7⟩:=hpp;have hk1:=hk0;obtain⟨⟨hr1,hr2,hr3⟩,hr4,hr5,hr6⟩:=hk1;have e0:=F2_.eq_1 s tick;refine kB 14 [0,1,2] λB2=>?_;refine sw_own (t:=6) (k:=8) (e:=199) 3 Hp_.pc rfl rfl ?_;refine loop (ι:=Nat×(List Hp_)×E_×Value) [1,2,4,5] [1,2] (λ⟨f,gone,x,u_gone⟩=>[(6, .osl 3)]) (λ⟨f,gone,x,u_gone⟩=>[(3, .arr u_gone 8 199 Hp_.pc gone),(0, .box (B2 0) 54 (E_.pc x))]) (λ⟨f,gone,x,u_gone⟩=>nik x.x.D_<f/\F2_ s tick=Ee_ tick f gone x/\StOk x/\(∀ g∈gone,MlOk g.Ab_)/\gone.length+nik x.x.D_<=512) (λ⟨f,gone,x,u_gone⟩=>f) ⟨(nik s.x.D_+1),[],s,(.slice none 0 0)⟩ ⟨rfl,trivial⟩ ⟨rfl,rfl,trivial⟩ ?_ ?_
 . exact⟨Nat.lt_succ_self _,e0,⟨by assumption,(λ_ h=>by cases h),by have :=nik_r hk0;simpa using this⟩⟩
 rintro⟨f,gone,x,u_gone⟩ ⟨hp5_1,hp5_2,hp5_3⟩;obtain⟨hi1,hi2,hi3⟩:=hp5_3;obtain⟨f1,rfl⟩:∃ q,f=q+1:=⟨f-1,by omega⟩;have e_f1:=hp5_2.trans (Ee_.eq_2 _ _ _ _);refine kA 7 ?_;refine cV e_f1 R20_ (Pc_ _ _) rfl λr hr6 e8 w7=>?_;have hA8:=Wu_ (s:=x.x.D_) (t:=tick) (by first|assumption|exact StOk.stk (by assumption))
 (try rw[<- hr6] at hA8)
 refine kB 17 [4] λB11=>?_;refine cE e8 (λh12 e14=>?_) (λh12 e20=>?_)
 . have h13:=E7_ h12;refine kB 20 [5] λB16=>?_;refine ef (ecallx (Hu_ _ _ _ (hg:=by exact⟨by omega,by assumption⟩)) rfl rfl rfl rfl rfl rfl rfl λw17=>?_);refine kB 9 [] λ_=>?_;refine aN [1,2,3,6,7,8,9,10] 4 mixd<|kE [0,1] 2 ?_;refine vE 2 rfl (sA G_ ?_);refine vT 3 rfl (sA G_ ?_);refine vD<|kA 2 ?_;exact rt2 rfl rfl (Am_ (λr:E_×Bh_=> .tup [.agg (E_.pc r.1), .agg (Bh_.pc r.2)]) e14 (ple rfl))
 have h19:=Eu_ h12;refine kA 10 ?_;refine cV e20 R19_ (Kj_ _ _ _) rfl λr1 hr21 e23 w22=>?_
 (try have hA23:=K4_ (s:=x.x.D_) (n:=r.1) (id:=r.2.1.id) (by first|assumption|exact StOk.stk (by assumption));(try rw[<- hr21] at hA23);obtain⟨hA23_0,hA23_1⟩:=hA23)
 refine kB 14 [] λ_=>?_;refine ef (bsl 5 Hp_.pc [(⟨r.1,r.2.1⟩:Hp_)] G_ rfl rfl rfl rfl rfl (λ_=>rfl) rfl (by decide) (by decide) rfl λu26=>?_);refine ef (app G_ [(⟨r.1,r.2.1⟩:Hp_)] rfl rfl rfl rfl rfl rfl rfl rfl rfl (src_o rfl rfl) (by first|omega|(simp;omega)) rfl λu27=>?_);refine kA 3 ?_;refine next ⟨f1,(gone++[(⟨r.1,r.2.1⟩:Hp_)]),(⟨(⟨x.x.book,r1.1,x.x.notes,x.x.seen,x.x.spent⟩:U_),x.K_,x.place⟩:E_),(u27)⟩ rfl rfl ⟨rfl,trivial⟩ ⟨rfl,rfl,trivial⟩ ?_ ?_
 . (try simp only[]);omega
 exact⟨(late_mu (StOk.stk (by assumption)) (by first|assumption|exact Eq.symm (by assumption)) (by assumption) (by first|assumption|exact Eq.symm (by assumption)) (by assumption)),e23,⟨Cz_ (by assumption) (by assumption),(λg hg=>by rcases List.mem_append.1 hg with q|q;exact hi2 g q;rw[List.mem_singleton.1 q];assumption),late_in (StOk.stk (by assumption)) (by first|assumption|exact Eq.symm (by assumption)) (by assumption) (by first|assumption|exact Eq.symm (by assumption)) (by assumption)⟩⟩
theorem Pj_ (s:E_) (d:L_) (hs:StOk s:=by assumption) (hd:DdOk d:=by assumption):Fn prog gb 39 [.agg (E_.pc s), .agg (L_.pc d)] (.tup [.agg (E_.pc ((Dv_ s d).1)), .agg (Bh_.pc ((Dv_ s d).2.1)), .int .i64 ((Dv_ s d).2.2)]):=by
 refine kG func39 ntmps39 λw N H hG=>?_;have d_frm_r:0<=d.frm/\d.frm<=255:=w.2.1.2.2.2.2.2.2.2.2.2.2.2.2.2.2.2.2.2.2.1;have hs0:=hs;obtain⟨⟨⟨hb1,hb2,hb3⟩,hk0,hn,hu⟩,hp0,hq1,hq2⟩:=hs0;have hpp:=hp0;obtain⟨hp1,hp2,hp3,hp4,hp5,hp6,hp7⟩:=hpp;have hk1:=hk0;obtain⟨⟨hr1,hr2,hr3⟩,hr4,hr5,hr6⟩:=hk1;have hd0:=hd;obtain⟨hd1,hd2,hd3,hd4⟩:=hd0;have e0:=Dv_.eq_1 s d;generalize Dv_ s d=z at e0 ⊢;refine kB 30 [0,1,2,3] λB2=>?_;refine cD e0 (λp7 e8=>?_) (λp10 e11=>?_)
 . refine kB 12 [] λ_=>?_;subst e8;exact qr3
 refine kA 7 ?_;refine call (H6_ _ _ _) rfl rfl λw12=>kC 7 ?_;refine callg rfl (λhc=>(H7_ _ _ _)) rfl ⟨(λhc=>hc),(λhc=>hc),(λhc=>hc),trivial⟩ rfl rfl λ_=>kC 5 ?_;refine cE e11 (λh13 e18=>?_) (λh13 e20=>?_)
 . have h14:=bl h13;have h15:=E7_ h14;have h16:=br h13;have p17:=dt h16;refine kB 12 [] λ_=>?_;subst e18;exact qr3
 refine kA 1 ?_;refine aN [4,5,6,7,8,9] 9 mixd<|kE [0,1,2,3,4] 4 ?_;refine vq 5 (qaia (d.frm).toNat rfl rfl underlying47 sz36 (by omega) (by omega)) rfl (by kernel_rfl) rfl λw21=>vE 6 rfl (oloadS1 (len:=16) (λq=> .int .u64 (A16.get s.x.seen q)) ((d.frm).toNat) 39 1 0 G_ rfl rfl rfl rfl rfl rfl (by omega) (bw16 rfl rfl rfl rfl rfl rfl rfl rfl rfl rfl rfl rfl rfl rfl rfl rfl) rfl λw22=>?_);refine kE [7,8] 0 ?_;refine vD<|kA 1 ?_;refine cD e20 (λp24 e25=>?_) (λp27 e28=>?_)
 . refine kB 12 [] λ_=>?_;subst e25;exact qr3
 refine kA 10 ?_;refine q1 (qaia (d.frm).toNat rfl rfl underlying47 sz36 (by omega) (by omega)) rfl λw29=>ef (ostoreS1 (len:=16) (λq=>E_.pc (⟨(⟨s.x.book,s.x.D_,s.x.notes,(A16.set s.x.seen d.number q),s.x.spent⟩:U_),s.K_,s.place⟩:E_)) ((d.frm).toNat) 39 1 0 G_ rfl rfl rfl rfl rfl rfl rfl (by omega) (bw16 rfl rfl rfl rfl rfl rfl rfl rfl rfl rfl rfl rfl rfl rfl rfl rfl) rfl (bw16 rfl rfl rfl rfl rfl rfl rfl rfl rfl rfl rfl rfl rfl rfl rfl rfl) rfl ?_);refine kA 3 ?_;obtain⟨o,e_o,q_o⟩:=Hl_ e28;refine Ii_ (ι:=E_) [2,3,4,5,6] [1,2,3] (λx=>[]) (λx=>[(0, .box (B2 0) 54 (E_.pc x))]) (λx=>o=x/\StOk x) ?_ ?_
 . refine kA 7 ?_;refine call (H6_ _ _ _) rfl rfl λw30=>kA 3 ?_;refine cE e_o (λh31 e33=>?_) (λh31 e41=>?_)
   . have h32:=E7_ h31;refine aN [4,5,6,7,8,9] 12 mixd<|kE [0,1,2,3,4,5,6] 5 ?_;have hc34:=getG (xs:=s.K_.places) (k:=(d.frm).toNat) (by omega);refine vq 7 (qidx G_ (d.frm).toNat rfl rfl (by omega) hc34 rfl rfl rfl rfl) rfl (by kernel_rfl) rfl λw35=>kE [8,9] 2 ?_;refine vE 10 rfl (eC (Gq_ (⟨(⟨s.x.book,s.x.D_,s.x.notes,(A16.set s.x.seen d.number ((d.frm).toNat)),s.x.spent⟩:U_),s.K_,s.place⟩:E_) _ _ _ (hn:=by exact st_nts (by first|assumption|exact D0_ (by assumption)))) rfl ?_);generalize hr37:C2_ (⟨(⟨s.x.book,s.x.D_,s.x.notes,(A16.set s.x.seen d.number ((d.frm).toNat)),s.x.spent⟩:U_),s.K_,s.place⟩:E_) d.tick 2 ((gt s.K_.places ((d.frm).toNat)).name)=r;intro w36;have e38:=e33.trans (C3_ hr37.symm);have hr37:=hr37.symm
     (try have hA38:=Kn_ (s:=(⟨(⟨s.x.book,s.x.D_,s.x.notes,(A16.set s.x.seen d.number ((d.frm).toNat)),s.x.spent⟩:U_),s.K_,s.place⟩:E_)) (t:=d.tick) (k:=2) (x:=((gt s.K_.places ((d.frm).toNat)).name)) (by first|assumption|exact D0_ (by assumption));(try rw[<- hr37] at hA38);obtain⟨hA38_0,hA38_1⟩:=hA38)
     refine vT 11 rfl (sA G_ ?_);refine vD<|nX r ?_ trivial ⟨rfl,trivial⟩;exact⟨e38,by first|assumption|exact D0_ (by assumption)⟩
   have h40:=Eu_ h31;refine kA 1 ?_;refine nX (⟨(⟨s.x.book,s.x.D_,s.x.notes,(A16.set s.x.seen d.number ((d.frm).toNat)),s.x.spent⟩:U_),s.K_,s.place⟩:E_) ?_ trivial ⟨rfl,trivial⟩;exact⟨e41,by first|assumption|exact D0_ (by assumption)⟩
 rintro x ⟨hp42,hp42_3⟩;have e43:=J1_ q_o hp42;refine kA 5 ?_;refine cV e43 R1_ (G3_ _) rfl λr1 hr44 e46 w45=>?_;have hA46:=Xt_ d.Ab_
 (try rw[<- hr44] at hA46)
 have :=wr_u8 (r1.hops+1);refine kB 19 [4] λB49=>?_;refine ef (ecallo 5 (Gr_ _ (⟨r1.id,r1.Bb_,r1.key,r1.head,r1.body,r1.due,(IntKind.wrap .u8 (r1.hops+1))⟩:Mail) _ (hs:=by first|assumption|exact D0_ (by assumption)) (hm:=by dsimp only;exact⟨by omega,by omega⟩)) rfl rfl ?_);generalize hr52:Ag_ x (⟨r1.id,r1.Bb_,r1.key,r1.head,r1.body,r1.due,(IntKind.wrap .u8 (r1.hops+1))⟩:Mail) d.tick=r2;intro u51 w50;have e53:=e46.trans (C3_ hr52.symm);have hr52:=hr52.symm
 (try have hA53:=Nc_ (s:=x) (m:=(⟨r1.id,r1.Bb_,r1.key,r1.head,r1.body,r1.due,(IntKind.wrap .u8 (r1.hops+1))⟩:Mail)) (tick:=d.tick) (by first|assumption|exact D0_ (by assumption)) (by (try dsimp only);first|omega|exact Nf_ _);(try rw[<- hr52] at hA53);obtain⟨hA53_0,hA53_1,hA53_2⟩:=hA53)
 (try have hA54:=Nb_ (s:=x) (m:=(⟨r1.id,r1.Bb_,r1.key,r1.head,r1.body,r1.due,(IntKind.wrap .u8 (r1.hops+1))⟩:Mail)) (tick:=d.tick) (by first|assumption|exact D0_ (by assumption));(try rw[<- hr52] at hA54))
 refine kD 24 [6] λB57=>?_;refine cE e53 (λh58 e59=>?_) (λh58 e70=>?_)
 . refine kA 7 ?_;refine cV e59 R21_ (Gq_ _ _ _ _ (hn:=by exact st_nts (by first|assumption|exact D0_ (by assumption)))) rfl λr3 hr60 e62 w61=>?_
   (try have hA62:=Kn_ (s:=x) (t:=d.tick) (k:=1) (x:=r1.Bb_) (by first|assumption|exact D0_ (by assumption));(try rw[<- hr60] at hA62);obtain⟨hA62_0,hA62_1⟩:=hA62)
   refine kB 8 [] λ_=>?_;subst e62;exact qr3
 have h65:=orl h58;have p66:=df h65;have h67:=orr h58;have h68:=Eu_ h67;have p69:=dt h68;refine kB 16 [7] λB72=>?_;refine so_osl (t:=115) 5 rfl rfl<|ef (ecallx (Hu_ _ _ _) rfl rfl rfl rfl rfl rfl rfl λw73=>?_);refine kB 9 [] λ_=>?_;refine aN [2,3,5,8,9,10,11,12] 5 mixd<|kE [0,1] 3 ?_;refine vE 2 rfl (sA G_ ?_);refine vT 3 rfl (sA G_ ?_);refine kE [4] 0 ?_;refine vD<|kA 2 ?_;subst e70;exact qr3
theorem Qk_ (s:E_) (d:L_) (hs:StOk s:=by assumption) (hd:DdOk d:=by assumption):Fn prog gb 35 [.agg (E_.pc s), .agg (L_.pc d)] (.tup [.agg (E_.pc ((Es_ s d).1)), .agg (Bh_.pc ((Es_ s d).2.1)), .int .i64 ((Es_ s d).2.2)]):=by
 refine kG func35 ntmps35 λw N H hG=>?_;have d_mail_hops_r:0<=d.Ab_.hops/\d.Ab_.hops<=255:=w.2.1.2.2.2.2.2.2.2.2.2.2.2.2.2.2.2.2.2.2.2.2.2.2.2.2.2.2.2.1;have hs0:=hs;obtain⟨⟨⟨hb1,hb2,hb3⟩,hk0,hn,hu⟩,hp0,hq1,hq2⟩:=hs0;have hpp:=hp0;obtain⟨hp1,hp2,hp3,hp4,hp5,hp6,hp7⟩:=hpp;have hk1:=hk0;obtain⟨⟨hr1,hr2,hr3⟩,hr4,hr5,hr6⟩:=hk1;have hd0:=hd;obtain⟨hd1,hd2,hd3,hd4⟩:=hd0;have e0:=Es_.eq_1 s d;generalize Es_ s d=z at e0 ⊢;refine kB 10 [0,1,2,3] λB2=>?_;refine Ii_ (ι:=Value×Nat) [2,3,4,5,6] [0,1,2,3] (λ⟨u6,b7⟩=>[(7, .own 5 b7 0),(8, .val u6),(9, .int .i64 ((Ag_ s (J_ d.Ab_) d.tick).2.2.1)),(10, .int .i64 ((Ag_ s (J_ d.Ab_) d.tick).2.2.2))]) (λ⟨u6,b7⟩=>[(4, .arr u6 8 199 Hp_.pc ((Ag_ s (J_ d.Ab_) d.tick).2.1)),(5, .box b7 54 (E_.pc ((Ag_ s (J_ d.Ab_) d.tick).1)))]) (λ⟨u6,b7⟩=>PV.wf (.agg (Mail.pc (J_ d.Ab_)))/\PV.wf (.tup [.agg (E_.pc ((Ag_ s (J_ d.Ab_) d.tick).1)), .val u6, .int .i64 ((Ag_ s (J_ d.Ab_) d.tick).2.2.1), .int .i64 ((Ag_ s (J_ d.Ab_) d.tick).2.2.2)])) ?_ ?_
 . refine aN [4,5,6,7,8,9,10,11] 17 mixd<|kE [0,1,2,4,5] 12 ?_;refine veL 3 [12] (by kernel_rfl) ⟨⟨_,rfl,?_⟩,⟨_,rfl,?_⟩,trivial⟩
   . refine ej rfl (eC (G3_ d.Ab_) rfl λw8=>?_);have hB8:=Xt_ d.Ab_;refine veL 6 [12] (by kernel_rfl) ⟨⟨_,rfl,?_⟩,⟨_,rfl,?_⟩,trivial⟩
     . refine ej rfl (ecallo 4 (Gr_ s (J_ d.Ab_) _) rfl rfl λu11 w10=>?_);refine kE [7,8,9,10,11] 5 ?_;refine vE 12 rfl (aL G_ 5 λb12=>?_);refine vE 13 rfl (sA G_ ?_);refine kE [14,15,16] 0 ?_;refine vD<|nX ⟨(u11),(b12)⟩ ?_ ⟨rfl,rfl,rfl,rfl,trivial⟩ ⟨rfl,rfl,trivial⟩;exact⟨w8,w10⟩
     refine ej rfl (aL G_ 5 λb13=>?_);refine vE 6 rfl (ecallo 4 (Gr_ s (J_ d.Ab_) _) rfl rfl λu15 w14=>?_);refine kE [7,8,9,10,11] 4 ?_;refine vE 13 rfl (sA G_ ?_);refine kE [14,15,16] 0 ?_;refine vD<|nX ⟨(u15),(b13)⟩ ?_ ⟨rfl,rfl,rfl,rfl,trivial⟩ ⟨rfl,rfl,trivial⟩;exact⟨w8,w14⟩
   refine ej rfl (aL G_ 5 λb16=>?_);refine vE 3 rfl (eC (G3_ d.Ab_) rfl λw17=>?_);have hB17:=Xt_ d.Ab_;refine vE 6 rfl (ecallo 4 (Gr_ s (J_ d.Ab_) _) rfl rfl λu20 w19=>?_);refine kE [7,8,9,10,11] 4 ?_;refine vE 13 rfl (sA G_ ?_);refine kE [14,15,16] 0 ?_;refine vD<|nX ⟨(u20),(b16)⟩ ?_ ⟨rfl,rfl,rfl,rfl,trivial⟩ ⟨rfl,rfl,trivial⟩;exact⟨w17,w19⟩
 generalize hr21:J_ d.Ab_=r;generalize hr22:Ag_ s r d.tick=r1;rintro⟨u6,b7⟩ ⟨w23,w24⟩;have e25:=e0.trans (C3_ hr21.symm);have hr21:=hr21.symm;have hA25:=Xt_ d.Ab_
 (try rw[<- hr21] at hA25)
 have e27:=e25.trans (C3_ hr22.symm);have hr22:=hr22.symm
 (try have hA27:=Nc_ (s:=s) (m:=r) (tick:=d.tick) (by first|assumption|exact D0_ (by assumption)) (by (try dsimp only);first|omega|exact Nf_ _);(try rw[<- hr22] at hA27);obtain⟨hA27_0,hA27_1,hA27_2⟩:=hA27)
 (try have hA28:=Nb_ (s:=s) (m:=r) (tick:=d.tick) (by first|assumption|exact D0_ (by assumption));(try rw[<- hr22] at hA28))
 refine kA 8 ?_;refine cN e27 (λp32 e33=>?_) (λp36 e37=>?_)
 . refine kB 12 [] λ_=>?_;subst e33;exact qr3
 refine kB 16 [6] λB39=>?_;refine so_osl (t:=33) 4 rfl rfl<|ef (ecallx (Hu_ _ _ _) rfl rfl rfl rfl rfl rfl rfl λw40=>?_);refine kB 9 [] λ_=>?_;refine aN [2,3,4,7,8,9,10,11] 5 mixd<|kE [0,1] 3 ?_;refine vE 2 rfl (sA G_ ?_);refine vT 3 rfl (sA G_ ?_);refine kE [4] 0 ?_;refine vD<|kA 2 ?_;subst e37;exact qr3
theorem Gh_ (s:E_) (d:L_) (hs:StOk s:=by assumption) (hd:DdOk d:=by assumption):Fn prog gb 10 [.agg (E_.pc s), .agg (L_.pc d)] (.tup [.agg (E_.pc ((O_ s d).1)), .agg (Bh_.pc ((O_ s d).2.1)), .int .i64 ((O_ s d).2.2)]):=by
 refine kG func10 ntmps10 λw N H hG=>?_;have hs0:=hs;obtain⟨⟨⟨hb1,hb2,hb3⟩,hk0,hn,hu⟩,hp0,hq1,hq2⟩:=hs0;have hpp:=hp0;obtain⟨hp1,hp2,hp3,hp4,hp5,hp6,hp7⟩:=hpp;have hk1:=hk0;obtain⟨⟨hr1,hr2,hr3⟩,hr4,hr5,hr6⟩:=hk1;have hd0:=hd;obtain⟨hd1,hd2,hd3,hd4⟩:=hd0;have e0:=O_.eq_1 s d;generalize O_ s d=z at e0 ⊢;refine kB 13 [0,1,2,3] λB2=>?_;refine call (Ux_ _) rfl rfl λw6=>?_;have :=deedE_r d;refine kA 9 ?_;refine cN e0 (λp9 e10=>?_) (λp13 e14=>?_)
 . refine kB 12 [] λ_=>?_;subst e10;exact qr3
 refine kB 14 [4,5] λB16=>?_;obtain⟨o,e_o,q_o⟩:=lt3_split e14;refine Ii_ (ι:=Int×E_×Bh_) [2,4,5,6,8,9] [1,2,3,4] (λ⟨e_1,x,x1⟩=>[(10, .int .i64 e_1)]) (λ⟨e_1,x,x1⟩=>[(0, .box (B2 0) 54 (E_.pc x)),(5, .box (B16 1) 70 (Bh_.pc x1))]) (λ⟨e_1,x,x1⟩=>o=(e_1,x,x1)) ?_ ?_
 . refine kA 8 ?_;obtain⟨o1,e_o1,q_o1⟩:=Hl_ e_o;refine Ii_ (ι:=Bool) [2,3,4,5,6,8,9,10,21] [0,1,2,3,4,5] (λv=>[(28, .bool v)]) (λv=>[]) (λv=>o1=v) ?_ ?_
   . refine kA 6 ?_;refine cD e_o1 (λp19 e20=>?_) (λp21 e22=>?_)
     . refine kA 1 ?_;refine nX (decide (d.kind=2)) ?_ ⟨rfl,trivial⟩ trivial;exact e20
     refine kA 4 ?_;refine nX (decide (d.kind=3)) ?_ ⟨rfl,trivial⟩ trivial;exact e22
   rintro v hp23;have e24:=J1_ q_o1 hp23;refine kA 1 ?_;refine cE e24 (λh25 e26=>?_) (λh25 e31=>?_)
   . refine kA 3 ?_;refine cV e26 R18_ (N8_ _ _) rfl λr hr27 e29 w28=>kB 7 [] λ_=>?_;refine nX ⟨r.2,r.1,(⟨(⟨(⟨0,[],[],[],[],0,0⟩:Mail),false,false⟩:M_),0,0⟩:Bh_)⟩ ?_ ⟨rfl,trivial⟩ ⟨rfl,rfl,trivial⟩;exact e29
   refine kA 6 ?_;refine cD e31 (λp33 e34=>?_) (λp39 e40=>?_)
   . refine kA 3 ?_;refine cV e34 R22_ (Qk_ _ _) rfl λr1 hr35 e37 w36=>kB 9 [] λ_=>?_;refine nX ⟨r1.2.2,r1.1,r1.2.1⟩ ?_ ⟨rfl,trivial⟩ ⟨rfl,rfl,trivial⟩;exact e37
   refine kA 6 ?_;refine cD e40 (λp42 e43=>?_) (λp48 e49=>?_)
   . refine kA 3 ?_;refine cV e43 R22_ (Pi_ _ _) rfl λr2 hr44 e46 w45=>kB 9 [] λ_=>?_;refine nX ⟨r2.2.2,r2.1,r2.2.1⟩ ?_ ⟨rfl,trivial⟩ ⟨rfl,rfl,trivial⟩;exact e46
   refine kA 6 ?_;refine cD e49 (λp51 e52=>?_) (λp57 e58=>?_)
   . refine kA 3 ?_;refine cV e52 R22_ (N9_ _ _) rfl λr3 hr53 e55 w54=>kB 9 [] λ_=>?_;refine nX ⟨r3.2.2,r3.1,r3.2.1⟩ ?_ ⟨rfl,trivial⟩ ⟨rfl,rfl,trivial⟩;exact e55
   refine kA 6 ?_;refine cD e58 (λp60 e61=>?_) (λp66 e67=>?_)
   . refine kA 4 ?_;refine cV e61 R23_ (Ph_ _ _) rfl λr4 hr62 e64 w63=>kB 7 [] λ_=>?_;refine nX ⟨0,r4.1,r4.2⟩ ?_ ⟨rfl,trivial⟩ ⟨rfl,rfl,trivial⟩;exact e64
   refine kA 6 ?_;refine cD e67 (λp69 e70=>?_) (λp75 e76=>?_)
   . refine kA 3 ?_;refine cV e70 R22_ (Pj_ _ _) rfl λr5 hr71 e73 w72=>kB 9 [] λ_=>?_;refine nX ⟨r5.2.2,r5.1,r5.2.1⟩ ?_ ⟨rfl,trivial⟩ ⟨rfl,rfl,trivial⟩;exact e73
   refine kA 6 ?_;refine cD e76 (λp78 e79=>?_) (λp90 e91=>?_)
   . refine kA 5 ?_;refine cV e79 R6_ (Pg_ _) rfl λr6 hr80 e82 w81=>?_;have hA82:=kwake_ok (s:=s.x.D_) (by first|assumption|exact StOk.stk (by assumption))
     (try rw[<- hr80] at hA82)
     refine kB 9 [] λ_=>?_;refine cV e82 R21_ (Gq_ (⟨(⟨s.x.book,r6,s.x.notes,s.x.seen,s.x.spent⟩:U_),s.K_,s.place⟩:E_) _ _ _) rfl λr7 hr85 e87 w86=>?_
     (try have hA87:=Kn_ (s:=(⟨(⟨s.x.book,r6,s.x.notes,s.x.seen,s.x.spent⟩:U_),s.K_,s.place⟩:E_)) (t:=d.tick) (k:=3) (x:=[]) (by first|assumption|exact D0_ (by assumption));(try rw[<- hr85] at hA87);obtain⟨hA87_0,hA87_1⟩:=hA87)
     refine kB 3 [] λ_=>?_;refine nX ⟨0,r7,(⟨(⟨(⟨0,[],[],[],[],0,0⟩:Mail),false,false⟩:M_),0,0⟩:Bh_)⟩ ?_ ⟨rfl,trivial⟩ ⟨rfl,rfl,trivial⟩;exact e87
   refine kA 6 ?_;refine cD e91 (λp93 e94=>?_) (λp99 e100=>?_)
   . refine kA 11 ?_;refine cV e94 R9_ (Jo_ _ (⟨d.tick,d.code,d.text⟩:D5_)) rfl λr8 hr95 e97 w96=>kB 9 [] λ_=>?_;refine nX ⟨r8.2,(⟨(⟨s.x.book,s.x.D_,r8.1,s.x.seen,s.x.spent⟩:U_),s.K_,s.place⟩:E_),(⟨(⟨(⟨0,[],[],[],[],0,0⟩:Mail),false,false⟩:M_),0,0⟩:Bh_)⟩ ?_ ⟨rfl,trivial⟩ ⟨rfl,rfl,trivial⟩;exact e97
   refine kA 3 ?_;refine cV e100 R18_ (Ow_ _ _) rfl λr9 hr101 e103 w102=>kB 7 [] λ_=>?_;refine nX ⟨r9.2,r9.1,(⟨(⟨(⟨0,[],[],[],[],0,0⟩:Mail),false,false⟩:M_),0,0⟩:Bh_)⟩ ?_ ⟨rfl,trivial⟩ ⟨rfl,rfl,trivial⟩;exact e103
 rintro⟨e_1,x,x1⟩ hp105;have e106:=lt3_fin q_o hp105;refine kA 8 ?_;refine cN e106 (λp109 e110=>?_) (λp113 e114=>?_)
 . refine kB 12 [] λ_=>?_;subst e110;exact qr3
 refine kA 3 ?_;refine aN [2,3,6,7,8,9,10,11] 5 mixd<|kE [0,1] 3 ?_;refine vE 2 rfl (sA G_ ?_);refine vT 3 rfl (sA G_ ?_);refine kE [4] 0 ?_;refine vD<|kA 2 ?_;subst e114;exact qr3
theorem ag95:Ag prog 95 false:=λw=>by kernel_rfl
theorem eqg97:prog.eqGuardType prog.depth 97=false:=by kernel_rfl
theorem veq97 (p q:Cq_):∀ (H:Hp) (vs us:List Value),Sims H (Cq_.pc p) vs->Sims H (Cq_.pc q) us->EqV prog 10000 97 (.agg vs.toArray) (.agg us.toArray) (decide (p=q)):=by
 intro H vs us hv hu;obtain⟨_,_,rfl,v0,v_0⟩:=hv.inv_cons;obtain⟨_,_,rfl,v1,v_1⟩:=v_0.inv_cons
 cases v_1.inv_nil
 cases v0.inv_int.1;cases v1.inv_int.1
 obtain⟨_,_,rfl,u0,u_0⟩:=hu.inv_cons;obtain⟨_,_,rfl,u1,u_1⟩:=u_0.inv_cons
 cases u_1.inv_nil
 cases u0.inv_int.1;cases u1.inv_int.1
 exact EqV.to' (Wa_ underlying97 (by kernel_rfl) (Qo_ (by decide) ag5 rfl rfl (O5_ underlying5) (Qo_ (by decide) ag95 rfl rfl (O5_ underlying95) V8_))) (by obtain⟨a0,a1⟩:=p;obtain⟨b0,b1⟩:=q;rw[Bool.eq_iff_iff];simp)
theorem Vg_ (a:Cq_) (i:Int) (hi:0<=i/\i<32:=by omega):Fn prog gb 161 [.agg (Cq_.pc a), .int .i64 i] (.bool (Xc_ a i)):=by
 refine kG func161 ntmps161 λw N H hG=>?_;have a_level_r:0<=a.level/\a.level<=255:=w.1.1;have a_set__r:0<=a.Z7_/\a.Z7_<=4294967295:=w.1.2.1;have i_r:-9223372036854775808<=i/\i<=9223372036854775807:=w.2.1;have hf0:=has_fd a i (by omega);have e0:=Xc_.eq_1 a i;refine kD 18 [0] λB2=>?_;exact rt1 rfl rfl (Am_ (λr:Bool=> .bool r) e0 (ple rfl))
theorem Zk_ (a:Cq_) (b:Cq_):Fn prog gb 85 [.agg (Cq_.pc a), .agg (Cq_.pc b)] (.bool (Qe_ a b)):=by
 refine kG func85 ntmps85 λw N H hG=>?_;have e0:=Qe_.eq_1 a b;generalize Qe_ a b=z at e0 ⊢;refine kB 17 [0,1] λB2=>?_;refine cD e0 (λp5 e6=>?_) (λp7 e8=>?_)
 . refine kA 7 ?_;subst e6;exact qr1
 refine kA 9 ?_;refine loop (ι:=Nat×Nat) [2,3] [0,1] (λ⟨f,i⟩=>[(5, .int .i64 (i:Int))]) (λ⟨f,i⟩=>[]) (λ⟨f,i⟩=>32-i<f/\z=Lz_ a b f i) (λ⟨f,i⟩=>f) ⟨(32-0+1),0⟩ ⟨rfl,trivial⟩ trivial ?_ ?_
 . exact⟨Nat.lt_succ_self _,e8⟩
 rintro⟨f,i⟩ ⟨hp9_1,hp9_2⟩;obtain⟨f1,rfl⟩:∃ q,f=q+1:=⟨f-1,by omega⟩;have e_f1:=hp9_2.trans (Lz_.eq_2 _ _ _ _);refine kA 7 ?_;refine cD e_f1 (λp11 e12=>?_) (λp20 e21=>?_)
 . refine kA 8 ?_;refine call (Vg_ _ _) rfl rfl λw13=>kA 3 ?_;refine callg rfl (λhc=>(Vg_ _ _)) rfl ⟨(λhc=>hc),(λhc=>hc),trivial⟩ rfl rfl λ_=>kC 4 ?_;refine cE e12 (λh14 e18=>?_) (λh14 e19=>?_)
   . have h15:=bl h14;have h16:=br h14;have h17:=E7_ h16;refine kA 11 ?_;subst e18;exact qr1
   refine kC 8 ?_;refine next ⟨f1,(i+1)⟩ rfl rfl ⟨rfl,trivial⟩ trivial ?_ ?_
   . (try simp only[]);omega
   exact⟨by (try simp only[]);omega,e19⟩
 refine kA 11 ?_;subst e21;exact qr1
theorem Zl_ (p:C_):Fn prog gb 29 [.agg (C_.pc p)] (.int .i64 (N3_ p)):=by
 refine kG func29 ntmps29 λw N H hG=>?_;have e0:=N3_.eq_1 p;generalize N3_ p=z at e0 ⊢;refine kD 29 [0] λB2=>?_;refine cE e0 (λh3 e4=>?_) (λh3 e15=>?_)
 . refine kA 7 ?_;subst e4;exact qr1
 have h5:=orl h3;have h6:=orl h5;have h7:=orl h6;have p8:=df h7;have h9:=orr h6;have p10:=df h9;have h11:=orr h5;have p12:=df h11;have h13:=orr h3;have p14:=df h13;refine kA 17 ?_;refine cD e15 (λp17 e18=>?_) (λp19 e20=>?_)
 . refine kA 7 ?_;subst e18;exact qr1
 refine kA 9 ?_;refine cD e20 (λp22 e23=>?_) (λp24 e25=>?_)
 . refine kA 7 ?_;subst e23;exact qr1
 refine kA 12 ?_;refine loop (ι:=Nat) [1,3,45,46] [0] (λk=>[(47, .int .i64 (k:Int))]) (λk=>[]) (λk=>k<=p.places.length/\z=Ge_ p (p.places.drop k) k) (λk=>p.places.length-k) 0 ⟨rfl,trivial⟩ trivial ?_ ?_
 . exact⟨Nat.zero_le _,e25⟩
 rintro k ⟨hp26_1,hp26_2⟩;refine kA 6 ?_;refine cn rfl (λp28=>?_) λp78=>?_
 . have e29:=C5_ (f:=λzz=>Ge_ p zz k) hp26_2 (Gs_ (by omega)) (Ge_.eq_2 _ _ _ _);refine kA 3 ?_;obtain⟨o,e_o,q_o⟩:=Ny_ e29;refine Ii_ (ι:=Unit) [1,3,45,46,47] [0] (λ_=>[]) (λ_=>[]) (λ_=>o = .fin ()) ?_ ?_
   . have hc30:=getG (xs:=p.places) (k:=k) (by omega);refine kA 4 ?_;refine kI k hc30 λw31=>?_;refine kB 10 [1] λB33=>?_;refine call (r4_Name _) rfl rfl λw34=>kA 10 ?_;refine cN e_o (λp37 e38=>?_) (λp41 e42=>?_)
     . refine kA 14 ?_;have e39:=Km_ q_o e38;subst e39;exact qr1
     refine kC 26 ?_;refine cE e42 (λh43 e44=>?_) (λh43 e56=>?_)
     . refine kA 13 ?_;have e45:=Km_ q_o e44;subst e45;exact qr1
     have h46:=orl h43;have h47:=orl h46;have h48:=orl h47;have p49:=df h48;have h50:=orr h47;have p51:=df h50;have h52:=orr h46;have p53:=df h52;have h54:=orr h43;have p55:=df h54;refine kA 7 ?_;refine q1 (lshi G_ k rfl rfl rfl rfl rfl (λ_=>rfl) rfl (by omega)) rfl λw57=>kA 5 ?_;refine loop (ι:=Nat) [1,3,5,45,46,47,80,81] [0,1] (λk1=>[(82, .int .i64 (k1:Int))]) (λk1=>[]) (λk1=>k1<=(p.places.take k).length/\o=G5_ (gt p.places k) ((p.places.take k).drop k1)) (λk1=>(p.places.take k).length-k1) 0 ⟨rfl,trivial⟩ trivial ?_ ?_
     . exact⟨Nat.zero_le _,e56⟩
     rintro k1 ⟨hp58_1,hp58_2⟩;have hkl:(p.places.take k).length<=p.places.length:=List.length_take_le' ..;refine kA 6 ?_;refine cn rfl (λp60=>?_) λp74=>?_
     . have e61:=C5_ (f:=λzz=>G5_ (gt p.places k) zz) hp58_2 (Gs_ (by omega)) (G5_.eq_2 _ _ _);have hc62:=getG (xs:=(p.places.take k)) (k:=k1) (by omega);refine kA 6 ?_;refine kI k1 hc62 λw63=>?_;refine kD 17 [2] λB65=>?_;refine q1g [93,95] rfl (λhc=>saeq rfl rfl eqg97 (veq97 ((gt (p.places.take k) k1).label) ((gt p.places k).label))) ⟨(λhc=>hc),(λhc=>hc),trivial⟩ rfl rfl rfl λ_=>?_;refine kC 3 ?_;refine cE e61 (λh66 e67=>?_) (λh66 e73=>?_)
       . refine kA 16 ?_;have e68:=Km_ q_o e67;subst e68;exact qr1
       have h69:=orl h66;have p70:=df h69;have h71:=orr h66;have p72:=df h71;refine kC 7 ?_;refine next (k1+1) rfl rfl ⟨rfl,trivial⟩ trivial ?_ ?_
       . (try simp only[]);omega
       exact⟨by (try simp only[]);omega,e73⟩
     have e75:=C5_ (f:=λzz=>G5_ (gt p.places k) zz) hp58_2 (Gy_ (by omega)) (G5_.eq_1 _);refine kA 5 ?_;refine nX () ?_ trivial trivial;exact e75
   rintro _ hp76;have e77:=Tk_ q_o hp76;refine kC 5 ?_;refine next (k+1) rfl rfl ⟨rfl,trivial⟩ trivial ?_ ?_
   . (try simp only[]);omega
   exact⟨by (try simp only[]);omega,e77⟩
 have e79:=C5_ (f:=λzz=>Ge_ p zz k) hp26_2 (Gy_ (by omega)) (Ge_.eq_1 _ _);refine kA 14 ?_;refine cD e79 (λp81 e82=>?_) (λp83 e84=>?_)
 . refine kA 7 ?_;subst e82;exact qr1
 refine kA 11 ?_;refine cD e84 (λp86 e87=>?_) (λp88 e89=>?_)
 . refine kA 7 ?_;subst e87;exact qr1
 refine kA 12 ?_;refine loop (ι:=Nat) [1,3,109,110] [0] (λk2=>[(111, .int .i64 (k2:Int))]) (λk2=>[]) (λk2=>k2<=p.slots.length/\z=Fu_ p (p.slots.drop k2)) (λk2=>p.slots.length-k2) 0 ⟨rfl,trivial⟩ trivial ?_ ?_
 . exact⟨Nat.zero_le _,e89⟩
 rintro k2 ⟨hp90_1,hp90_2⟩;refine kA 6 ?_;refine cn rfl (λp92=>?_) λp103=>?_
 . have e93:=C5_ (f:=λzz=>Fu_ p zz) hp90_2 (Gs_ (by omega)) (Fu_.eq_2 _ _ _);have hc94:=getG (xs:=p.slots) (k:=k2) (by omega);refine kA 6 ?_;refine kI k2 hc94 λw95=>?_;refine kC 15 ?_;refine cE e93 (λh96 e97=>?_) (λh96 e102=>?_)
   . refine kA 11 ?_;subst e97;exact qr1
   have h98:=orl h96;have p99:=df h98;have h100:=orr h96;have p101:=df h100;refine kC 7 ?_;refine next (k2+1) rfl rfl ⟨rfl,trivial⟩ trivial ?_ ?_
   . (try simp only[]);omega
   exact⟨by (try simp only[]);omega,e102⟩
 have e104:=C5_ (f:=λzz=>Fu_ p zz) hp90_2 (Gy_ (by omega)) (Fu_.eq_1 _);refine kA 14 ?_;refine cD e104 (λp106 e107=>?_) (λp108 e109=>?_)
 . refine kA 7 ?_;subst e107;exact qr1
 refine kA 12 ?_;refine loop (ι:=Nat) [1,3,128,129] [0] (λk3=>[(130, .int .i64 (k3:Int))]) (λk3=>[]) (λk3=>k3<=p.grants.length/\z=Gf_ p (p.grants.drop k3) k3) (λk3=>p.grants.length-k3) 0 ⟨rfl,trivial⟩ trivial ?_ ?_
 . exact⟨Nat.zero_le _,e109⟩
 rintro k3 ⟨hp110_1,hp110_2⟩;refine kA 6 ?_;refine cn rfl (λp112=>?_) λp170=>?_
 . have e113:=C5_ (f:=λzz=>Gf_ p zz k3) hp110_2 (Gs_ (by omega)) (Gf_.eq_2 _ _ _ _);refine kA 3 ?_;obtain⟨o1,e_o1,q_o1⟩:=Ny_ e113;refine Ii_ (ι:=Unit) [1,3,128,129,130] [0] (λ_=>[]) (λ_=>[]) (λ_=>o1 = .fin ()) ?_ ?_
   . have hc114:=getG (xs:=p.grants) (k:=k3) (by omega);refine kA 4 ?_;refine kI k3 hc114 λw115=>?_;refine kD 31 [1] λB117=>?_;refine cE e_o1 (λh118 e119=>?_) (λh118 e131=>?_)
     . refine kA 13 ?_;have e120:=Km_ q_o1 e119;subst e120;exact qr1
     have h121:=orl h118;have h122:=orl h121;have h123:=orl h122;have p124:=df h123;have h125:=orr h122;have p126:=df h125;have h127:=orr h121;have p128:=df h127;have h129:=orr h118;have p130:=df h129;refine kA 4 ?_;refine aN [2,3,4,5,6,7] 15 mixd<|kE [0,1,2,3] 11 ?_;have hc132:=getG (xs:=p.places) (k:=((gt p.grants k3).frm).toNat) (by omega);refine vq 4 (qidx G_ ((gt p.grants k3).frm).toNat rfl rfl (by omega) hc132 rfl rfl rfl rfl) rfl (by kernel_rfl) rfl λw133=>kE [5,6,7,8,9,10] 4 ?_;have hc134:=getG (xs:=p.places) (k:=((gt p.grants k3).to').toNat) (by omega);refine vq 11 (qidx G_ ((gt p.grants k3).to').toNat rfl rfl (by omega) hc134 rfl rfl rfl rfl) rfl (by kernel_rfl) rfl λw135=>kE [12,13] 1 ?_;refine vC 14 rfl (Zk_ _ _) rfl λw136=>vD ?_;refine kA 1 ?_;refine cE e131 (λh137 e138=>?_) (λh137 e140=>?_)
     . refine kA 13 ?_;have e139:=Km_ q_o1 e138;subst e139;exact qr1
     refine kC 15 ?_;refine cE e140 (λh141 e142=>?_) (λh141 e148=>?_)
     . refine kA 13 ?_;have e143:=Km_ q_o1 e142;subst e143;exact qr1
     have h144:=orl h141;have p145:=df h144;have h146:=orr h141;have p147:=df h146;refine kA 7 ?_;refine q1 (lshi G_ k3 rfl rfl rfl rfl rfl (λ_=>rfl) rfl (by omega)) rfl λw149=>kA 5 ?_;refine loop (ι:=Nat) [1,3,12,128,129,130,181,182] [0,1] (λk4=>[(183, .int .i64 (k4:Int))]) (λk4=>[]) (λk4=>k4<=(p.grants.take k3).length/\o1=G6_ (gt p.grants k3) ((p.grants.take k3).drop k4)) (λk4=>(p.grants.take k3).length-k4) 0 ⟨rfl,trivial⟩ trivial ?_ ?_
     . exact⟨Nat.zero_le _,e148⟩
     rintro k4 ⟨hp150_1,hp150_2⟩;have hkl:(p.grants.take k3).length<=p.grants.length:=List.length_take_le' ..;refine kA 6 ?_;refine cn rfl (λp152=>?_) λp166=>?_
     . have e153:=C5_ (f:=λzz=>G6_ (gt p.grants k3) zz) hp150_2 (Gs_ (by omega)) (G6_.eq_2 _ _ _);have hc154:=getG (xs:=(p.grants.take k3)) (k:=k4) (by omega);refine kA 6 ?_;refine kI k4 hc154 λw155=>?_;refine kD 21 [2] λB157=>?_;refine cE e153 (λh158 e163=>?_) (λh158 e165=>?_)
       . have h159:=bl h158;have p160:=dt h159;have h161:=br h158;have p162:=dt h161;refine kA 16 ?_;have e164:=Km_ q_o1 e163;subst e164;exact qr1
       refine kC 7 ?_;refine next (k4+1) rfl rfl ⟨rfl,trivial⟩ trivial ?_ ?_
       . (try simp only[]);omega
       exact⟨by (try simp only[]);omega,e165⟩
     have e167:=C5_ (f:=λzz=>G6_ (gt p.grants k3) zz) hp150_2 (Gy_ (by omega)) (G6_.eq_1 _);refine kA 5 ?_;refine nX () ?_ trivial trivial;exact e167
   rintro _ hp168;have e169:=Tk_ q_o1 hp168;refine kC 5 ?_;refine next (k3+1) rfl rfl ⟨rfl,trivial⟩ trivial ?_ ?_
   . (try simp only[]);omega
   exact⟨by (try simp only[]);omega,e169⟩
 have e171:=C5_ (f:=λzz=>Gf_ p zz k3) hp110_2 (Gy_ (by omega)) (Gf_.eq_1 _ _);refine kA 12 ?_;refine loop (ι:=Nat×Nat) [1,3] [0] (λ⟨f,i⟩=>[(15, .int .i64 (i:Int))]) (λ⟨f,i⟩=>[]) (λ⟨f,i⟩=>p.places.length-i<f/\z=L0_ p f i) (λ⟨f,i⟩=>f) ⟨(p.places.length-0+1),0⟩ ⟨rfl,trivial⟩ trivial ?_ ?_
 . exact⟨Nat.lt_succ_self _,e171⟩
 rintro⟨f,i⟩ ⟨hp172_1,hp172_2⟩;obtain⟨f1,rfl⟩:∃ q,f=q+1:=⟨f-1,by omega⟩;have e_f1:=hp172_2.trans (L0_.eq_2 _ _ _);refine kA 8 ?_;refine cD e_f1 (λp174 e175=>?_) (λp192 e193=>?_)
 . refine kA 3 ?_;obtain⟨o2,e_o2,q_o2⟩:=Ny_ e175;refine Ii_ (ι:=Unit) [1,3,15] [0] (λ_=>[]) (λ_=>[]) (λ_=>o2 = .fin ()) ?_ ?_
   . refine kA 16 ?_;refine loop (ι:=Nat×Bool) [1,3,15,207,208] [0] (λ⟨k5,has⟩=>[(209, .int .i64 (k5:Int)),(16, .bool has)]) (λ⟨k5,has⟩=>[]) (λ⟨k5,has⟩=>k5<=p.slots.length/\o2=Il_ i (p.slots.drop k5) has) (λ⟨k5,has⟩=>p.slots.length-k5) ⟨0,false⟩ ⟨rfl,rfl,trivial⟩ trivial ?_ ?_
     . exact⟨Nat.zero_le _,e_o2⟩
     rintro⟨k5,has⟩ ⟨hp176_1,hp176_2⟩;refine kA 6 ?_;refine cn rfl (λp178=>?_) λp182=>?_
     . have e179:=C5_ (f:=λzz=>Il_ i zz has) hp176_2 (Gs_ (by omega)) (Il_.eq_2 _ _ _ _);have hc180:=getG (xs:=p.slots) (k:=k5) (by omega);refine kA 6 ?_;refine kI k5 hc180 λw181=>?_;refine kC 19 ?_;refine next ⟨(k5+1),(has||(decide ((gt p.slots k5)=(i:Int))))⟩ rfl rfl ⟨rfl,rfl,trivial⟩ trivial ?_ ?_
       . (try simp only[]);omega
       exact⟨by (try simp only[]);omega,e179⟩
     have e183:=C5_ (f:=λzz=>Il_ i zz has) hp176_2 (Gy_ (by omega)) (Il_.eq_1 _ _);refine kA 11 ?_;refine cE e183 (λh184 e186=>?_) (λh184 e189=>?_)
     . have h185:=E7_ h184;refine kA 12 ?_;have e187:=Km_ q_o2 e186;subst e187;exact qr1
     have h188:=Eu_ h184;refine kA 2 ?_;refine nX () ?_ trivial trivial;exact e189
   rintro _ hp190;have e191:=Tk_ q_o2 hp190;refine kC 6 ?_;refine next ⟨f1,(i+1)⟩ rfl rfl ⟨rfl,trivial⟩ trivial ?_ ?_
   . (try simp only[]);omega
   exact⟨by (try simp only[]);omega,e191⟩
 refine kA 11 ?_;subst e193;exact qr1
theorem l23_At_ok (p:C_) (n:Int) (hs:0<p.places.length:=by omega):Fn prog gb 8 [.agg (C_.pc p), .int .u8 n] (.int .i64 (Ys_ p n)):=by
 refine kG func8 ntmps8 λw N H hG=>?_;have p_places_l:p.places.length<=140737488355328:=w.1.2.2.1.1;have p_slots_l:p.slots.length<=140737488355328:=w.1.2.2.2.1.1;have p_grants_l:p.grants.length<=140737488355328:=w.1.2.2.2.2.1.1;have n_r:0<=n/\n<=255:=w.2.1;have e0:=Ys_.eq_1 p n;refine kD 18 [0] λB2=>?_;exact rt1 rfl rfl (Am_ (λr:Int=> .int .i64 r) e0 (ple rfl))
theorem Yg_ (p:C_):Fn prog gb 28 [.agg (C_.pc p)] (.bool (La_ p)):=by
 refine kG func28 ntmps28 λw N H hG=>?_;have e0:=La_.eq_1 p;generalize La_ p=z at e0 ⊢;refine kD 27 [0] λB2=>?_;refine cE e0 (λh3 e4=>?_) (λh3 e12=>?_)
 . refine kA 7 ?_;subst e4;exact qr1
 have h5:=orl h3;have h6:=orl h5;have p7:=df h6;have h8:=orr h5;have p9:=df h8;have h10:=orr h3;have p11:=df h10;refine kA 12 ?_;refine loop (ι:=Nat) [22,23] [0] (λk=>[(24, .int .i64 (k:Int))]) (λk=>[]) (λk=>k<=p.places.length/\z=G0_ (p.places.drop k)) (λk=>p.places.length-k) 0 ⟨rfl,trivial⟩ trivial ?_ ?_
 . exact⟨Nat.zero_le _,e12⟩
 rintro k ⟨hp13_1,hp13_2⟩;refine kA 6 ?_;refine cn rfl (λp15=>?_) λp26=>?_
 . have e16:=C5_ (f:=λzz=>G0_ zz) hp13_2 (Gs_ (by omega)) (G0_.eq_2 _ _);have hc17:=getG (xs:=p.places) (k:=k) (by omega);refine kA 6 ?_;refine kI k hc17 λw18=>?_;refine kB 13 [1] λB20=>?_;refine cD e16 (λp22 e23=>?_) (λp24 e25=>?_)
   . refine kA 11 ?_;subst e23;exact qr1
   refine kC 7 ?_;refine next (k+1) rfl rfl ⟨rfl,trivial⟩ trivial ?_ ?_
   . (try simp only[]);omega
   exact⟨by (try simp only[]);omega,e25⟩
 have e27:=C5_ (f:=λzz=>G0_ zz) hp13_2 (Gy_ (by omega)) (G0_.eq_1);refine kA 11 ?_;subst e27;exact qr1
abbrev ty106v99b:TI:=⟨.agg [(0,1),(1,1),(2,1),(3,1),(4,1)],5,88,[.int .i64 0, .int .i64 0, .val (.slice none 0 0), .val (.slice none 0 0), .val (.slice none 0 0)]⟩
def tbv99b:Tb:=[(3,ty3),(22,ty22),(23,ty23),(24,ty24),(26,ty26),(99,ty99),(103,ty103),(104,ty104),(106,ty106v99b),(145,ty145),(169,ty169),(171,ty171)]
theorem En_:tbB prog tbv99b=true:=by kernel_rfl
theorem l05_To_ok (p:C_) (hp:p.places.length<=100000/\p.slots.length<=100000/\p.grants.length<=100000:=by first|assumption|omega|exact poOk_l (by first|assumption|exact StOk.pol (by assumption))|exact l05_light (by first|assumption|simpa using hc)):Fn prog gb 30 [.agg (C_.pc p)] (.agg (C_.pc (S4_ p))):=by
 refine fC func30 En_ ntmps30 λw N H hG=>?_;have e0:=S4_.eq_1 p;refine gm En_ 27 [0,1,2] λB2=>?_;refine O0_ (i:=2) (o:=2) (k:=5) (e:=169) 3 A3_.pc rfl (by decide) rfl rfl ?_;refine O0_ (i:=2) (o:=3) (k:=1) (e:=3) 4 i64c rfl (by decide) rfl rfl ?_;refine O0_ (i:=2) (o:=4) (k:=3) (e:=171) 5 B0_.pc rfl (by decide) rfl rfl ?_;refine loop (ι:=Nat×Int×Int×(List A3_)×(List Int)×(List B0_)×Value×Value×Value) [1,2,3,14,15] [0,1] (λ⟨k,work,give_,places,slots,grants,u_places,u_slots,u_grants⟩=>[(16, .int .i64 (k:Int))]) (λ⟨k,work,give_,places,slots,grants,u_places,u_slots,u_grants⟩=>[(2, .box (B2 2) 106 [.int .i64 work, .int .i64 give_, .osl 3, .osl 4, .osl 5]),(3, .arr u_places 5 169 A3_.pc places),(4, .arr u_slots 1 3 i64c slots),(5, .arr u_grants 3 171 B0_.pc grants)]) (λ⟨k,work,give_,places,slots,grants,u_places,u_slots,u_grants⟩=>k<=p.places.length/\S4_ p=Ix_ p (p.places.drop k) work give_ places slots grants/\places.length<=k/\slots.length=0/\grants.length=0) (λ⟨k,work,give_,places,slots,grants,u_places,u_slots,u_grants⟩=>p.places.length-k) ⟨0,p.work,p.give,[],[],[],(.slice none 0 0),(.slice none 0 0),(.slice none 0 0)⟩ ⟨rfl,trivial⟩ ⟨rfl,rfl,rfl,rfl,trivial⟩ ?_ ?_
 . exact⟨Nat.zero_le _,e0,⟨by simp,by simp,by simp⟩⟩
 rintro⟨k,work,give_,places,slots,grants,u_places,u_slots,u_grants⟩ ⟨hp5_1,hp5_2,hp5_3⟩;refine gx En_ 6 ?_;refine cn rfl (λp7=>?_) λp15=>?_
 . have e8:=C5_ (f:=λzz=>Ix_ p zz work give_ places slots grants) hp5_2 (Gs_ (by omega)) (Ix_.eq_2 _ _ _ _ _ _ _ _);have hc9:=getG (xs:=p.places) (k:=k) (by omega);refine gx En_ 6 ?_;refine q1 (qidx En_ k rfl rfl rfl hc9 rfl rfl rfl rfl) rfl λw10=>gm En_ 9 [6] λB12=>?_;refine ef (bsl 7 A3_.pc [(gt p.places k)] En_ rfl rfl rfl rfl rfl (λ_=>rfl) rfl (by decide) (by decide) rfl λu13=>?_);refine ef (app En_ [(gt p.places k)] rfl rfl rfl rfl rfl rfl rfl rfl rfl (src_o rfl rfl) (by first|omega|(simp;omega)) rfl λu14=>?_);refine gx En_ 1 ?_;refine ef (Jb_ En_ rfl rfl rfl rfl rfl rfl rfl rfl rfl ?_);refine gy En_ 7 ?_;refine next ⟨(k+1),work,give_,(places++[(gt p.places k)]),slots,grants,(u14),(u_slots),(u_grants)⟩ rfl rfl ⟨rfl,trivial⟩ ⟨rfl,rfl,rfl,rfl,trivial⟩ ?_ ?_
   . (try simp only[]);omega
   exact⟨by (try simp only[]);omega,e8,⟨(by (try simp only[List.length_append,List.length_cons,List.length_nil]);omega),by omega,by omega⟩⟩
 have e16:=C5_ (f:=λzz=>Ix_ p zz work give_ places slots grants) hp5_2 (Gy_ (by omega)) (Ix_.eq_1 _ _ _ _ _ _);refine gx En_ 11 ?_;refine ef (app En_ p.slots rfl rfl rfl rfl rfl rfl rfl rfl rfl (src_l rfl (λ_=>rfl)) (by first|omega|(simp;omega)) rfl λu17=>?_);refine gx En_ 1 ?_;refine ef (Jb_ En_ rfl rfl rfl rfl rfl rfl rfl rfl rfl ?_);refine gx En_ 12 ?_;refine loop (ι:=Nat×Int×Int×(List A3_)×(List Int)×(List B0_)×Value×Value×Value) [2,3,34,35] [0,1] (λ⟨k1,work1,give_1,places1,slots1,grants1,u_places1,u_slots1,u_grants1⟩=>[(36, .int .i64 (k1:Int))]) (λ⟨k1,work1,give_1,places1,slots1,grants1,u_places1,u_slots1,u_grants1⟩=>[(2, .box (B2 2) 106 [.int .i64 work1, .int .i64 give_1, .osl 3, .osl 4, .osl 5]),(3, .arr u_places1 5 169 A3_.pc places1),(4, .arr u_slots1 1 3 i64c slots1),(5, .arr u_grants1 3 171 B0_.pc grants1)]) (λ⟨k1,work1,give_1,places1,slots1,grants1,u_places1,u_slots1,u_grants1⟩=>k1<=p.grants.length/\S4_ p=Iy_ (p.grants.drop k1) work1 give_1 places1 slots1 grants1/\grants1.length<=k1) (λ⟨k1,work1,give_1,places1,slots1,grants1,u_places1,u_slots1,u_grants1⟩=>p.grants.length-k1) ⟨0,work,give_,places,(slots++p.slots),grants,(u_places),(u17),(u_grants)⟩ ⟨rfl,trivial⟩ ⟨rfl,rfl,rfl,rfl,trivial⟩ ?_ ?_
 . exact⟨Nat.zero_le _,e16,by omega⟩
 rintro⟨k1,work1,give_1,places1,slots1,grants1,u_places1,u_slots1,u_grants1⟩ ⟨hp18_1,hp18_2,hp18_3⟩;refine gx En_ 6 ?_;refine cn rfl (λp20=>?_) λp28=>?_
 . have e21:=C5_ (f:=λzz=>Iy_ zz work1 give_1 places1 slots1 grants1) hp18_2 (Gs_ (by omega)) (Iy_.eq_2 _ _ _ _ _ _ _);have hc22:=getG (xs:=p.grants) (k:=k1) (by omega);refine gx En_ 6 ?_;refine q1 (qidx En_ k1 rfl rfl rfl hc22 rfl rfl rfl rfl) rfl λw23=>gm En_ 9 [6] λB25=>?_;refine ef (bsl 7 B0_.pc [(gt p.grants k1)] En_ rfl rfl rfl rfl rfl (λ_=>rfl) rfl (by decide) (by decide) rfl λu26=>?_);refine ef (app En_ [(gt p.grants k1)] rfl rfl rfl rfl rfl rfl rfl rfl rfl (src_o rfl rfl) (by first|omega|(simp;omega)) rfl λu27=>?_);refine gx En_ 1 ?_;refine ef (Jb_ En_ rfl rfl rfl rfl rfl rfl rfl rfl rfl ?_);refine gy En_ 7 ?_;refine next ⟨(k1+1),work1,give_1,places1,slots1,(grants1++[(gt p.grants k1)]),(u_places1),(u_slots1),(u27)⟩ rfl rfl ⟨rfl,trivial⟩ ⟨rfl,rfl,rfl,rfl,trivial⟩ ?_ ?_
   . (try simp only[]);omega
   exact⟨by (try simp only[]);omega,e21,(by (try simp only[List.length_append,List.length_cons,List.length_nil]);omega)⟩
 have e29:=C5_ (f:=λzz=>Iy_ zz work1 give_1 places1 slots1 grants1) hp18_2 (Gy_ (by omega)) (Iy_.eq_1 _ _ _ _ _);refine gx En_ 7 ?_;refine give 3 rfl<|give 4 rfl ?_;refine give 5 rfl<|gm En_ 5 [] λ_=>?_;exact rt1 rfl rfl (Am_ (λr:C_=> .agg (C_.pc r)) e29 (ple rfl))
theorem l05_May_ok (p:C_):Fn prog gb 6 [.agg (C_.pc p)] (.bool (L7_ p)):=by
 refine kG func6 ntmps6 λw N H hG=>?_;have e0:=L7_.eq_1 p;refine kB 9 [0] λB2=>?_;refine call (Yg_ _) rfl rfl λw3=>kA 2 ?_;refine callg rfl (λhc=>(l05_To_ok _)) rfl ⟨(λhc=>hc),trivial⟩ rfl rfl λ_=>callg rfl (λhc=>(Zl_ _)) rfl ⟨(λhc=>hc),trivial⟩ rfl rfl λ_=>kC 6 ?_;exact rt1 rfl rfl (Am_ (λr:Bool=> .bool r) e0 (ple rfl))
theorem cb299:Ad_ prog 299:=Aa_ func299 (by kernel_rfl) (by kernel_rfl)
theorem cb327:Ad_ prog 327:=Aa_ func327 (by kernel_rfl) (by kernel_rfl)
theorem strings_SplitL (s p:Bs) (hp:p=[10]) (hs:s.length<4294967281):Fn prog gb 284 [.str s, .str p] (.sl strc (cuts 10 s)):=
 ⟨cb284,rfl,λN H L w us hg hsim hm=>by
   obtain⟨v1,_,rfl,h1,h2⟩:=hsim.inv_cons;obtain⟨v2,_,rfl,h3,h4⟩:=h2.inv_cons
   cases h4.inv_nil
   rw[h1.inv_str.1,h3.inv_str.1]
   refine (SW.strings_SplitL H s p hp (gbML hg) hs N L w hm).mono λ_ _ ⟨v,H',h5,⟨a,c,h6,h7⟩,h8,h9⟩=>⟨v,H',h5,?_,h8,h9⟩
   rw[h6]
   exact Sim.of_slh (k:=1) ⟨h7.1,λm hm=>by
     obtain⟨cs,hE,hat⟩:=h7.2 m hm;obtain⟨hE1,hE2⟩:=hE;subst hE1;exact⟨_,⟨rfl,Sims.nil.cons (Sim.str hE2),λu hu=>by simp at hu;subst hu;rfl⟩,hat⟩⟩ (by have :=cuts_le 10 s;omega)⟩
theorem strings_Flds (s:Bs) (hs:s.length<=65536) (hn:(flds s).length<=65536):Fn prog gb 299 [.str s, .fn 300 [] []] (.sl strc (flds s)):=
 ⟨cb299,rfl,λN H L w us hg hsim hm=>by
   obtain⟨v1,_,rfl,h1,h2⟩:=hsim.inv_cons;obtain⟨v2,_,rfl,h3,h4⟩:=h2.inv_cons
   cases h4.inv_nil
   rw[h1.inv_str.1,inv_fn0 h3]
   refine (SW.strings_Flds H s hs N L w hm).mono λ_ _ ⟨v,H',h5,⟨a,c,h6,h7⟩,h8,h9⟩=>⟨v,H',h5,?_,h8,h9⟩
   rw[h6]
   exact Sim.of_slh (k:=1) ⟨h7.1,λm hm=>by
     obtain⟨cs,hE,hat⟩:=h7.2 m hm;obtain⟨hE1,hE2⟩:=hE;subst hE1;exact⟨_,⟨rfl,Sims.nil.cons (Sim.str hE2),λu hu=>by simp at hu;subst hu;rfl⟩,hat⟩⟩ (by have :=hn;omega)⟩
theorem strconv_PU (s:Bs) (b z:Int) (hb:b=10) (hz:z=64) (hl:s.length<=19) (h0:0<s.length) (hd:Ie_ s=true):Fn prog gb 327 [.str s, .int .i64 b, .int .i64 z] (.tup [.int .u64 (dec s:Int), .val .nilIface]):=
 ⟨cb327,rfl,λN H L w us hg hsim hm=>by
   obtain⟨v1,_,rfl,h1,h2⟩:=hsim.inv_cons;obtain⟨v2,_,rfl,h3,h4⟩:=h2.inv_cons;obtain⟨v3,_,rfl,h5,h6⟩:=h4.inv_cons
   cases h6.inv_nil
   rw[h1.inv_str.1,h3.inv_int.1,h5.inv_int.1]
   subst hb;subst hz;refine (SW.strconv_PU s hl h0 hd w).mono λ_ _ ⟨he,hb⟩=>⟨_,H,he,?_, .refl H,Mem.below hm hb⟩;exact Sim.toTup (Sims.cons (Sim.int (Int.natCast_nonneg _) (dec_ok hl h0 hd).2) (Sims.cons Sim.val Sims.nil))⟩
theorem T0_ (s:Bs) (hs:s.length<=65536:=by omega) (hn:(flds s).length<=65536:=by first|assumption|exact hz_.2.1):Fn prog gb 285 [.str s] (.sl strc (Kh_ s)):=by
 refine kG func285 ntmps285 λw N H hG=>?_;have e0:=Kh_.eq_1 s;refine kA 8 ?_;refine call (strings_Flds _ (by omega) (by assumption)) rfl rfl λw1=>kA 4 ?_;exact rt1 rfl rfl (Am_ (λr:(List Bs)=> .sl strc r) e0 (ple rfl))
theorem Lg_ (n:Int) (least:Int) (most:Int):Fn prog gb 317 [.int .i64 n, .int .i64 least, .int .i64 most] (.int .i64 (Jh_ n least most)):=by
 refine kG func317 ntmps317 λw N H hG=>?_;have e0:=Jh_.eq_1 n least most;generalize Jh_ n least most=z at e0 ⊢;refine kA 15 ?_;refine cD e0 (λp2 e3=>?_) (λp4 e5=>?_)
 . refine kA 8 ?_;subst e3;exact qr1
 refine kA 8 ?_;refine cD e5 (λp7 e8=>?_) (λp9 e10=>?_)
 . refine kA 8 ?_;subst e8;exact qr1
 refine kA 9 ?_;subst e10;exact qr1
theorem Ro_ (y:A3_) (x1:A3_):Fn prog gb 328 [.agg (A3_.pc y), .el (A3_.pc x1) 0] (.bool (K0_ y x1)):=by
 refine kG func328 ntmps328 λw N H hG=>?_;have e0:=K0_.eq_1 y x1;refine kD 18 [0] λB2=>?_;refine q1g [11,13] rfl (λhc=>saeq rfl rfl eqg97 (veq97 y.label x1.label)) ⟨(λhc=>hc),(λhc=>hc),trivial⟩ rfl rfl rfl λ_=>?_;refine kC 5 ?_;exact rt1 rfl rfl (Am_ (λr:Bool=> .bool r) e0 (ple rfl))
theorem Rn_ (y:B0_) (x1:B0_):Fn prog gb 331 [.agg (B0_.pc y), .el (B0_.pc x1) 0] (.bool (Kz_ y x1)):=by
 refine kG func331 ntmps331 λw N H hG=>?_;have e0:=Kz_.eq_1 y x1;refine kD 24 [0] λB2=>?_;exact rt1 rfl rfl (Am_ (λr:Bool=> .bool r) e0 (ple rfl))
theorem So_ (s:List Int) (v:Int):Fn prog gb 309 [.sl i64c s, .int .i64 v] (.bool (Nq_ s v)):=by
 refine kG func309 ntmps309 λw N H hG=>?_;have e0:=Nq_.eq_1 s v;refine kA 9 ?_;refine cV e0 R0_ (index_int _ _) rfl λr hr1 e3 w2=>?_;have hA3:=H8_ (λy=>decide (v=y)) s
 (try rw[<- hr1] at hA3)
 refine kA 5 ?_;exact rt1 rfl rfl (Am_ (λr:Bool=> .bool r) e3 (ple rfl))
theorem cmp_Or_ok (vals:List Int):Fn prog gb 305 [.sl i64c vals] (.int .i64 (Xr_ vals)):=by
 refine kG func305 ntmps305 λw N H hG=>?_;have vals_l:vals.length<=140737488355328:=w.1.1;have e0:=Xr_.eq_1 vals;generalize Xr_ vals=z at e0 ⊢;refine kA 19 ?_;refine loop (ι:=Nat) [3,6,7] [] (λk=>[(8, .int .i64 (k:Int))]) (λk=>[]) (λk=>k<=vals.length/\z=K7_ (vals.drop k)) (λk=>vals.length-k) 0 ⟨rfl,trivial⟩ trivial ?_ ?_
 . exact⟨Nat.zero_le _,e0⟩
 rintro k ⟨hp1_1,hp1_2⟩;refine kA 6 ?_;refine cn rfl (λp3=>?_) λp14=>?_
 . have e4:=C5_ (f:=λzz=>K7_ zz) hp1_2 (Gs_ (by omega)) (K7_.eq_2 _ _);have hc5:=getG (xs:=vals) (k:=k) (by omega);refine kA 6 ?_;refine kI k hc5 λw6=>?_;refine kA 11 ?_;refine cN e4 (λp9 e10=>?_) (λp12 e13=>?_)
   . refine kA 12 ?_;subst e10;exact qr1
   refine kC 7 ?_;refine next (k+1) rfl rfl ⟨rfl,trivial⟩ trivial ?_ ?_
   . (try simp only[]);omega
   exact⟨by (try simp only[]);omega,e13⟩
 have e15:=C5_ (f:=λzz=>K7_ zz) hp1_2 (Gy_ (by omega)) (K7_.eq_1);refine kA 12 ?_;subst e15;exact qr1
theorem Rk_ (a:Cq_):Fn prog gb 329 [.agg (Cq_.pc a)] (.bool (Jl_ a)):=by
 refine kG func329 ntmps329 λw N H hG=>?_;have e0:=Jl_.eq_1 a;refine kB 15 [0] λB2=>?_;exact rt1 rfl rfl (Am_ (λr:Bool=> .bool r) e0 (ple rfl))
theorem Mi_ (s:Bs) (most:Int) (hm:0<=most/\most<=1000:=by omega):Fn prog gb 251 [.str s, .int .i64 most] (.tup [.int .i64 ((Ep_ s most).1), .str ((Ep_ s most).2.1), .int .i64 ((Ep_ s most).2.2)]):=by
 refine kG func251 ntmps251 λw N H hG=>?_;have s_l:s.length<=9223372036854775807:=w.1;have most_r:-9223372036854775808<=most/\most<=9223372036854775807:=w.2.1;have e0:=Ep_.eq_1 s most;generalize Ep_ s most=z at e0 ⊢;refine kA 18 ?_;obtain⟨o,e_o,q_o⟩:=Y7_ e0;refine Ii_ (ι:=Int×Int) [0,1,4,5,6] [] (λ⟨k,n⟩=>[(7, .int .i64 k),(8, .int .i64 n)]) (λ⟨k,n⟩=>[]) (λ⟨k,n⟩=>o=(k,n)/\0<=k/\k<=s.length) ?_ ?_
 . refine kA 1 ?_;refine loop (ι:=Nat×Nat×Int) [0,1,4,5,6] [] (λ⟨f,k1,n1⟩=>[(7, .int .i64 (k1:Int)),(8, .int .i64 n1)]) (λ⟨f,k1,n1⟩=>[]) (λ⟨f,k1,n1⟩=>s.length-k1<f/\o=Ei_ s most f k1 n1/\k1<=s.length/\0<=n1/\n1<=10*most+9) (λ⟨f,k1,n1⟩=>f) ⟨(s.length-0+1),0,0⟩ ⟨rfl,rfl,trivial⟩ trivial ?_ ?_
   . exact⟨Nat.lt_succ_self _,e_o,⟨by omega,by omega,by omega⟩⟩
   rintro⟨f,k1,n1⟩ ⟨hp1_1,hp1_2,hp1_3⟩;obtain⟨hi1,hi2,hi3⟩:=hp1_3;obtain⟨f1,rfl⟩:∃ q,f=q+1:=⟨f-1,by omega⟩;have e_f1:=hp1_2.trans (Ei_.eq_2 _ _ _ _ _);refine kA 9 ?_;refine cD e_f1 (λp3 e4=>?_) (λp18 e19=>?_)
   . have :=u8r (s.getD k1 0);refine kA 8 ?_;refine q1 (sidx G_ k1 rfl rfl rfl rfl rfl (by omega)) rfl λw5=>kC 15 ?_;refine cE e4 (λh6 e7=>?_) (λh6 e12=>?_)
     . refine kA 6 ?_;refine nX ⟨(k1:Int),n1⟩ ?_ ⟨rfl,rfl,trivial⟩ trivial;exact⟨e7,⟨by omega,by omega⟩⟩
     have h8:=orl h6;have p9:=df h8;have h10:=orr h6;have p11:=df h10;refine kA 8 ?_;refine cD e12 (λp14 e15=>?_) (λp16 e17=>?_)
     . have :=wr_u8 (((s.getD k1 0).toNat:Int)-48);refine kC 17 ?_;refine next ⟨f1,(k1+1),((10*n1)+(IntKind.wrap .u8 (((s.getD k1 0).toNat:Int)-48)))⟩ rfl rfl ⟨rfl,rfl,trivial⟩ trivial ?_ ?_
       . (try simp only[]);omega
       exact⟨by (try simp only[]);omega,e15,⟨by omega,by first|omega|(simp only[IntKind.wrap_u8];omega),by first|omega|(simp only[IntKind.wrap_u8];omega)⟩⟩
     refine kC 9 ?_;refine next ⟨f1,(k1+1),n1⟩ rfl rfl ⟨rfl,rfl,trivial⟩ trivial ?_ ?_
     . (try simp only[]);omega
     exact⟨by (try simp only[]);omega,e17,⟨by omega,by first|omega|(simp only[IntKind.wrap_u8];omega),by first|omega|(simp only[IntKind.wrap_u8];omega)⟩⟩
   refine kA 4 ?_;refine nX ⟨(k1:Int),n1⟩ ?_ ⟨rfl,rfl,trivial⟩ trivial;exact⟨e19,⟨by omega,by omega⟩⟩
 rintro⟨k,n⟩ ⟨hp20,hp20_3⟩;have e21:=lt2_fin q_o hp20;refine kC 15 ?_;refine cE e21 (λh22 e27=>?_) (λh22 e28=>?_)
 . have h23:=bl h22;have p24:=dt h23;have h25:=br h22;have p26:=dt h25;refine kA 11 ?_;subst e27;exact qr3
 refine kA 1 ?_;obtain⟨o1,e_o1,q_o1⟩:=Hl_ e28;refine Ii_ (ι:=Bool) [0,1,4,5,6,7,8] [] (λv=>[(44, .bool v)]) (λv=>[]) (λv=>o1=v) ?_ ?_
 . refine kA 7 ?_;refine cD e_o1 (λp30 e31=>?_) (λp32 e33=>?_)
   . refine kA 1 ?_;refine nX (decide (k=0)) ?_ ⟨rfl,trivial⟩ trivial;exact e31
   have :=u8r (s.getD 0 0);refine kA 5 ?_;refine q1g [50] rfl (λhc=>sidx G_ 0 rfl rfl rfl rfl rfl (by first|omega|(simp only[gOf,bl2] at *;omega))) ⟨(λhc=>hc),trivial⟩ rfl rfl rfl λ_=>?_;refine kC 4 ?_;refine nX ((decide (1<k))&&(decide (((s.getD 0 0).toNat:Int)=48))) ?_ ⟨rfl,trivial⟩ trivial;exact e33
 rintro v hp34;have e35:=J1_ q_o1 hp34;refine kA 1 ?_;refine cE e35 (λh36 e37=>?_) (λh36 e38=>?_)
 . refine kA 11 ?_;subst e37;exact qr3
 refine kA 8 ?_;refine cD e38 (λp40 e41=>?_) (λp42 e43=>?_)
 . refine kA 11 ?_;subst e41;exact qr3
 refine kA 4 ?_;refine aN [0,1,2,3,4,5] 7 mixd<|kE [0,1,2] 4 ?_;refine vq 3 (sslo G_ (k).toNat rfl rfl rfl rfl (by omega) (by omega)) rfl (by kernel_rfl) rfl λw44=>kE [4,5,6] 0 ?_;refine vD<|kA 3 ?_;subst e43;exact qr3
end Go.SW.V
