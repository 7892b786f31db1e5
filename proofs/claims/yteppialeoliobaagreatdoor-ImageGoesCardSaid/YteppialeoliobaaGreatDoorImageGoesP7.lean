/-
  A part of the proof of ImageGoes: The walks of this seat, printed by program: policy.Parse.
-/
import Derived.Test.YteppialeoliobaaGreatDoorProg
import Derived.Test.YteppialeoliobaaGreatDoorImageGoesP3
import Derived.KernelRfl
import Derived.Test.YteppialeoliobaaGreatDoorImageGoesP6
import Derived.Test.YteppialeoliobaaGreatDoorImageGoesP4
set_option linter.unusedVariables false
set_option linter.unusedSimpArgs false
set_option maxRecDepth 100000
set_option maxHeartbeats 4000000
open Go.Proofs.Tryz
namespace Go.SW.V
open Go.SW Go.Proofs
abbrev R26_:(List Bs)->PV:=λr=> .sl strc r
abbrev R27_:(Int×Int)->PV:=λr=> .tup [.int .i64 r.1, .int .i64 r.2]
abbrev R28_:(C4_×Int)->PV:=λr=> .tup [.agg (C4_.pc r.1), .int .i64 r.2]
theorem cb286:An_ prog 286:=Ad_ func286 (by kernel_rfl) (by kernel_rfl)
theorem cb303:An_ prog 303:=Ad_ func303 (by kernel_rfl) (by kernel_rfl)
theorem cb304:An_ prog 304:=Ad_ func304 (by kernel_rfl) (by kernel_rfl)
abbrev ty26v122:TI:=⟨.agg [(0,1),(1,1),(2,1),(3,1),(4,1)],5,88,[.int .i64 0, .int .i64 0, .val (.slice none 0 0), .val (.slice none 0 0), .val (.slice none 0 0)]⟩
def tbv122:Tb:=[(3,ty3),(9,ty9),(22,ty22),(23,ty23),(24,ty24),(26,ty26v122),(86,ty86),(97,ty97),(99,ty99),(145,ty145)]
theorem V_:tbB prog tbv122=true:=by kernel_rfl
theorem Ti_ (s:Bs) (hs:plen s=true:=by first|assumption|decide +kernel):Fn prog gb 258 [.str s] (.tup [.agg (E_.pc ((Im_ s).1)), .int .i64 ((Im_ s).2.1), .int .i64 ((Im_ s).2.2)]):=by
 refine fC func258 V_ ntmps258 λw N H hG=>?_;have hpl:=plen_ok hs;have hpl1:=hpl.1;have hcl:=Zs_ 10 s;have e0:=Im_.eq_1 s;generalize Im_ s=z at e0 ⊢;refine gm V_ 16 [0,1] λB2=>?_;refine call (strings_SplitL _ _ (by rfl) (by omega)) rfl rfl λw4=>?_;refine gx V_ 5 ?_;refine O2_ (i:=1) (o:=2) (k:=5) (e:=99) 2 A5_.pc rfl (by decide) rfl rfl ?_;refine O2_ (i:=1) (o:=3) (k:=1) (e:=3) 3 i64c rfl (by decide) rfl rfl ?_;refine O2_ (i:=1) (o:=4) (k:=3) (e:=145) 4 Bz_.pc rfl (by decide) rfl rfl ?_;refine loop (ι:=Nat×Int×Int×(List A5_)×(List Int)×(List Bz_)×Value×Value×Value) [2,5,12,13] [0] (λ⟨k,work,give_,places,slots,grants,u_places,u_slots,u_grants⟩=>[(14, .int .i64 (k:Int))]) (λ⟨k,work,give_,places,slots,grants,u_places,u_slots,u_grants⟩=>[(1, .box (B2 1) 26 [.int .i64 work, .int .i64 give_, .osl 2, .osl 3, .osl 4]),(2, .arr u_places 5 99 A5_.pc places),(3, .arr u_slots 1 3 i64c slots),(4, .arr u_grants 3 145 Bz_.pc grants)]) (λ⟨k,work,give_,places,slots,grants,u_places,u_slots,u_grants⟩=>k<=(cuts 10 s).length/\z=Bu_ ((cuts 10 s).drop k) k work give_ places slots grants/\places.length<=k/\slots.length<=k/\grants.length<=k) (λ⟨k,work,give_,places,slots,grants,u_places,u_slots,u_grants⟩=>(cuts 10 s).length-k) ⟨0,0,0,[],[],[],(.slice none 0 0),(.slice none 0 0),(.slice none 0 0)⟩ ⟨rfl,trivial⟩ ⟨rfl,rfl,rfl,rfl,trivial⟩ ?_ ?_
 . exact⟨Nat.zero_le _,e0,⟨by simp,by simp,by simp⟩⟩
 rintro⟨k,work,give_,places,slots,grants,u_places,u_slots,u_grants⟩ ⟨hp5_1,hp5_2,hp5_3⟩;refine gx V_ 6 ?_;refine cnd rfl (λh6=>?_) (λh6=>?_)
 . have p7:=dt h6;have e8:=C6_ (f:=λzz=>Bu_ zz k work give_ places slots grants) hp5_2 (Gb_ (by omega)) (Bu_.eq_2 _ _ _ _ _ _ _ _);have hc9:=getG (xs:=cuts 10 s) (k:=k) (by omega);have hz_hc9:=hpl.2 (gt (cuts 10 s) k) (List.mem_of_getElem? hc9);have hy_hc9:=hz_hc9.2.1;refine gx V_ 7 ?_;refine q1 (qidx V_ k rfl rfl rfl hc9 rfl rfl rfl rfl) rfl λw10=>?_;refine gx V_ 8 ?_;refine cV e8 R26_ (Tk_ _ (hn:=by assumption)) rfl λr hr11 e13 w12=>?_;have hpw:=plen_w hs (show Jp_ (gt (cuts 10 s) k)=r from by first|assumption|exact Eq.symm (by assumption)) (by assumption);have hpw0:0<r.length->0<(gt r 0).length/\(gt r 0).length<=19:=λq=>hpw _ (H3_ q);refine gx V_ 11 ?_;refine q1g [25] rfl (λhc=>qidx V_ 0 rfl rfl rfl (getG (by first|omega|(simp only[gOf,bl2] at *;omega))) rfl rfl rfl rfl) ⟨(λhc=>hc),trivial⟩ rfl rfl rfl λ_=>?_;have :=u8r ((gt r 0).getD 0 0);refine gy V_ 1 ?_;refine q1g [27] rfl (λhc=>sidx V_ 0 rfl rfl rfl rfl rfl (by first|omega|(simp only[gOf,bl2] at *;omega))) ⟨(λhc=>hc),trivial⟩ rfl rfl rfl λ_=>?_;refine gy V_ 4 ?_;refine cE e13 (λh14 e15=>?_) (λh14 e20=>?_)
   . refine gy V_ 8 ?_;refine next ⟨(k+1),work,give_,places,slots,grants,(u_places),(u_slots),(u_grants)⟩ rfl rfl ⟨rfl,trivial⟩ ⟨rfl,rfl,rfl,rfl,trivial⟩ ?_ ?_
     . (try simp only[]);omega
     exact⟨by (try simp only[]);omega,e15,⟨(by (try simp only[List.length_append,List.length_cons,List.length_nil]);omega),(by (try simp only[List.length_append,List.length_cons,List.length_nil]);omega),(by (try simp only[List.length_append,List.length_cons,List.length_nil]);omega)⟩⟩
   have h16:=orl h14;have p17:=df h16;have h18:=orr h14;have p19:=df h18;refine gx V_ 5 ?_;refine hinl [] V_ func286 rfl ntmps286 cb286 rfl rfl rfl rfl λHc21 hHc21=>?_;have hc22:=getG (xs:=r) (k:=0) (by omega);have hz_hc22:=hpw (gt r 0) (List.mem_of_getElem? hc22);refine gx V_ 14 ?_;refine q1 (qidx V_ 0 rfl rfl rfl hc22 rfl rfl rfl rfl) rfl λw23=>?_;refine gx V_ 10 ?_;refine cE e20 (λh24 e26=>?_) (λh24 e141=>?_)
   . have p25:=dt h24;refine gx V_ 14 ?_;refine cN e26 (λp29 e30=>?_) (λp33 e34=>?_)
     . refine gx V_ 7 ?_;refine inlr rfl rfl rfl trivial ?_;refine gx V_ 9 ?_;refine cndT rfl (by decide) ?_;refine gmy V_ 17 [] λ_=>?_;subst e30;exact rt3 rfl rfl (Fv_ (A_ (Fu_ (A_ (ple rfl) (A_ (ple rfl) (A_ Aq_ (A_ Aq_ (A_ Aq_ A8_)))))) (A_ (ple rfl) (A_ (ple rfl) A8_))))
     refine gx V_ 11 ?_;refine q1 (qidx V_ 0 rfl rfl rfl hc22 rfl rfl rfl rfl) rfl λw35=>?_;refine gx V_ 10 ?_;refine cD e34 (λp37 e38=>?_) (λp53 e54=>?_)
     . have hc39:=getG (xs:=r) (k:=1) (by omega);have hz_hc39:=hpw (gt r 1) (List.mem_of_getElem? hc39);refine gx V_ 3 ?_;refine q1 (qidx V_ 1 rfl rfl rfl hc39 rfl rfl rfl rfl) rfl λw40=>?_;refine gx V_ 1 ?_;refine cV e38 R27_ (Fj_ _) rfl λr1 hr41 e43 w42=>?_;refine gm V_ 17 [] λ_=>?_;refine inlr rfl rfl rfl trivial ?_;refine gx V_ 9 ?_;refine cN e43 (λp47 e48=>?_) (λp51 e52=>?_)
       . refine gmy V_ 17 [] λ_=>?_;subst e48;exact rt3 rfl rfl (Fv_ (A_ (Fu_ (A_ (ple rfl) (A_ (ple rfl) (A_ Aq_ (A_ Aq_ (A_ Aq_ A8_)))))) (A_ (ple rfl) (A_ (ple rfl) A8_))))
       refine gy V_ 7 ?_;refine next ⟨(k+1),r1.1,give_,places,slots,grants,(u_places),(u_slots),(u_grants)⟩ rfl rfl ⟨rfl,trivial⟩ ⟨rfl,rfl,rfl,rfl,trivial⟩ ?_ ?_
       . (try simp only[]);omega
       exact⟨by (try simp only[]);omega,e52,⟨(by (try simp only[List.length_append,List.length_cons,List.length_nil]);omega),(by (try simp only[List.length_append,List.length_cons,List.length_nil]);omega),(by (try simp only[List.length_append,List.length_cons,List.length_nil]);omega)⟩⟩
     refine gx V_ 6 ?_;refine cD e54 (λp56 e57=>?_) (λp72 e73=>?_)
     . have hc58:=getG (xs:=r) (k:=1) (by omega);have hz_hc58:=hpw (gt r 1) (List.mem_of_getElem? hc58);refine gx V_ 3 ?_;refine q1 (qidx V_ 1 rfl rfl rfl hc58 rfl rfl rfl rfl) rfl λw59=>?_;refine gx V_ 1 ?_;refine cV e57 R27_ (Fj_ _) rfl λr2 hr60 e62 w61=>?_;refine gm V_ 17 [] λ_=>?_;refine inlr rfl rfl rfl trivial ?_;refine gx V_ 9 ?_;refine cN e62 (λp66 e67=>?_) (λp70 e71=>?_)
       . refine gmy V_ 17 [] λ_=>?_;subst e67;exact rt3 rfl rfl (Fv_ (A_ (Fu_ (A_ (ple rfl) (A_ (ple rfl) (A_ Aq_ (A_ Aq_ (A_ Aq_ A8_)))))) (A_ (ple rfl) (A_ (ple rfl) A8_))))
       refine gy V_ 7 ?_;refine next ⟨(k+1),work,r2.1,places,slots,grants,(u_places),(u_slots),(u_grants)⟩ rfl rfl ⟨rfl,trivial⟩ ⟨rfl,rfl,rfl,rfl,trivial⟩ ?_ ?_
       . (try simp only[]);omega
       exact⟨by (try simp only[]);omega,e71,⟨(by (try simp only[List.length_append,List.length_cons,List.length_nil]);omega),(by (try simp only[List.length_append,List.length_cons,List.length_nil]);omega),(by (try simp only[List.length_append,List.length_cons,List.length_nil]);omega)⟩⟩
     refine gx V_ 6 ?_;refine cD e73 (λp75 e76=>?_) (λp92 e93=>?_)
     . refine gx V_ 6 ?_;refine aN [5,6,7,8,9,10] 12 mixd ?_;refine gX V_ [0,1,2,3] 8 ?_;have hc77:=getG (xs:=r) (k:=1) (by omega);have hz_hc77:=hpw (gt r 1) (List.mem_of_getElem? hc77);refine vq 4 (qidx V_ 1 rfl rfl rfl hc77 rfl rfl rfl rfl) rfl (by kernel_rfl) rfl λw78=>?_;refine gX V_ [5] 6 ?_;refine vE 6 rfl (Xa_ (E6_ (⟨work,give_,places,slots,grants⟩:E_) _) rfl rfl (.agg (.same _ (.same _ (.lend 2 rfl (.lend 3 rfl (.lend 4 rfl .nil))))) (.same _ .nil)) rfl ?_);generalize hr80:Bn_ (⟨work,give_,places,slots,grants⟩:E_) (gt r 1)=r3;intro w79;have e81:=e76.trans (Dh_ hr80.symm);refine gX V_ [7,8,9,10,11] 0 ?_;refine vD ?_;refine gx V_ 8 ?_;refine ef (bsl 5 i64c [r3.1] V_ rfl rfl rfl rfl rfl (λ_=>rfl) rfl (by decide) (by decide) rfl λu82=>?_);refine ef (app V_ [r3.1] rfl rfl rfl rfl rfl rfl rfl rfl rfl (src_o rfl rfl) (by first|omega|(simp;omega)) rfl λu83=>?_);refine gx V_ 2 ?_;refine ef (Jc_ V_ rfl rfl rfl rfl rfl rfl rfl rfl rfl ?_);refine gx V_ 10 ?_;refine inlr rfl rfl rfl trivial ?_;refine gx V_ 9 ?_;refine cN e81 (λp86 e87=>?_) (λp90 e91=>?_)
       . refine gmy V_ 17 [] λ_=>?_;subst e87;exact rt3 rfl rfl (Fv_ (A_ (Fu_ (A_ (ple rfl) (A_ (ple rfl) (A_ Aq_ (A_ Aq_ (A_ Aq_ A8_)))))) (A_ (ple rfl) (A_ (ple rfl) A8_))))
       refine gy V_ 7 ?_;refine next ⟨(k+1),work,give_,places,(slots++[r3.1]),grants,(u_places),(u83),(u_grants)⟩ rfl rfl ⟨rfl,trivial⟩ ⟨rfl,rfl,rfl,rfl,trivial⟩ ?_ ?_
       . (try simp only[]);omega
       exact⟨by (try simp only[]);omega,e91,⟨(by (try simp only[List.length_append,List.length_cons,List.length_nil]);omega),(by (try simp only[List.length_append,List.length_cons,List.length_nil]);omega),(by (try simp only[List.length_append,List.length_cons,List.length_nil]);omega)⟩⟩
     refine gx V_ 6 ?_;refine cndT rfl h24 ?_;refine gx V_ 4 ?_;refine hinl [] V_ func303 rfl ntmps303 cb303 rfl rfl rfl rfl λHc94 hHc94=>?_;have hc95:=getG (xs:=r) (k:=2) (by omega);have hz_hc95:=hpw (gt r 2) (List.mem_of_getElem? hc95);refine gx V_ 8 ?_;refine q1 (qidx V_ 2 rfl rfl rfl hc95 rfl rfl rfl rfl) rfl λw96=>?_;refine gx V_ 1 ?_;refine cV e93 R28_ (If_ _) rfl λr4 hr97 e99 w98=>?_;refine gm V_ 15 [5] λB101=>?_;refine cE e99 (λh102 e105=>?_) (λh102 e109=>?_)
     . have h103:=Ek_ h102;have p104:=df h103;refine gx V_ 8 ?_;refine inlr rfl rfl rfl trivial ?_;refine gx V_ 6 ?_;refine inlr rfl rfl rfl trivial ?_;refine gx V_ 9 ?_;refine cndT rfl h102 ?_;refine gmy V_ 17 [] λ_=>?_;subst e105;exact rt3 rfl rfl (Fv_ (A_ (Fu_ (A_ (ple rfl) (A_ (ple rfl) (A_ Aq_ (A_ Aq_ (A_ Aq_ A8_)))))) (A_ (ple rfl) (A_ (ple rfl) A8_))))
     have h107:=Di_ h102;have p108:=dt h107;have hc110:=getG (xs:=r) (k:=3) (by omega);have hz_hc110:=hpw (gt r 3) (List.mem_of_getElem? hc110);refine gx V_ 5 ?_;refine q1 (qidx V_ 3 rfl rfl rfl hc110 rfl rfl rfl rfl) rfl λw111=>?_;refine gx V_ 1 ?_;refine cV e109 R27_ (Fj_ _) rfl λr5 hr112 e114 w113=>?_;refine gx V_ 14 ?_;refine cE e114 (λh115 e118=>?_) (λh115 e122=>?_)
     . have h116:=Ek_ h115;have p117:=df h116;refine gx V_ 8 ?_;refine inlr rfl rfl rfl trivial ?_;refine gx V_ 6 ?_;refine inlr rfl rfl rfl trivial ?_;refine gx V_ 9 ?_;refine cndT rfl h115 ?_;refine gmy V_ 17 [] λ_=>?_;subst e118;exact rt3 rfl rfl (Fv_ (A_ (Fu_ (A_ (ple rfl) (A_ (ple rfl) (A_ Aq_ (A_ Aq_ (A_ Aq_ A8_)))))) (A_ (ple rfl) (A_ (ple rfl) A8_))))
     have h120:=Di_ h115;have p121:=dt h120;have hc123:=getG (xs:=r) (k:=4) (by omega);have hz_hc123:=hpw (gt r 4) (List.mem_of_getElem? hc123);refine gx V_ 5 ?_;refine q1 (qidx V_ 4 rfl rfl rfl hc123 rfl rfl rfl rfl) rfl λw124=>?_;refine gx V_ 1 ?_;refine cV e122 R24_ (Mn_ _ _) rfl λr6 hr125 e127 w126=>?_;refine gx V_ 8 ?_;refine aN [2,6,7,8,9,10,11] 17 mixd ?_;refine gX V_ [0,1,2,3,4,5] 11 ?_;have hc128:=getG (xs:=r) (k:=1) (by omega);have hz_hc128:=hpw (gt r 1) (List.mem_of_getElem? hc128);refine vq 6 (qidx V_ 1 rfl rfl rfl hc128 rfl rfl rfl rfl) rfl (by kernel_rfl) rfl λw129=>?_;refine gX V_ [7,8,9,10,11] 5 ?_;refine vE 12 rfl (bsl 6 A5_.pc [(⟨(gt r 1),r4.1,r5.1,r6.1⟩:A5_)] V_ rfl rfl rfl rfl rfl (λ_=>rfl) rfl (by decide) (by decide) rfl λu130=>?_);refine vE 13 rfl (app V_ [(⟨(gt r 1),r4.1,r5.1,r6.1⟩:A5_)] rfl rfl rfl rfl rfl rfl rfl rfl rfl (src_o rfl rfl) (by first|omega|(simp;omega)) rfl λu131=>?_);refine gX V_ [14,15] 1 ?_;refine vtp 16 rfl (by kernel_rfl) (by kernel_rfl) (Jc_ V_ rfl rfl rfl rfl rfl rfl rfl rfl rfl ?_);refine vD ?_;refine gx V_ 8 ?_;refine inlr rfl rfl rfl trivial ?_;refine gx V_ 6 ?_;refine inlr rfl rfl rfl trivial ?_;refine gx V_ 9 ?_;refine cN e127 (λp134 e135=>?_) (λp138 e139=>?_)
     . refine gmy V_ 17 [] λ_=>?_;subst e135;exact rt3 rfl rfl (Fv_ (A_ (Fu_ (A_ (ple rfl) (A_ (ple rfl) (A_ Aq_ (A_ Aq_ (A_ Aq_ A8_)))))) (A_ (ple rfl) (A_ (ple rfl) A8_))))
     refine gy V_ 7 ?_;refine next ⟨(k+1),work,give_,(places++[(⟨(gt r 1),r4.1,r5.1,r6.1⟩:A5_)]),slots,grants,(u131),(u_slots),(u_grants)⟩ rfl rfl ⟨rfl,trivial⟩ ⟨rfl,rfl,rfl,rfl,trivial⟩ ?_ ?_
     . (try simp only[]);omega
     exact⟨by (try simp only[]);omega,e139,⟨(by (try simp only[List.length_append,List.length_cons,List.length_nil]);omega),(by (try simp only[List.length_append,List.length_cons,List.length_nil]);omega),(by (try simp only[List.length_append,List.length_cons,List.length_nil]);omega)⟩⟩
   have p140:=df h24;refine gx V_ 6 ?_;refine cD e141 (λp143 e144=>?_) (λp254 e255=>?_)
   . refine gx V_ 14 ?_;refine cN e144 (λp147 e148=>?_) (λp151 e152=>?_)
     . refine gx V_ 7 ?_;refine inlr rfl rfl rfl trivial ?_;refine gx V_ 9 ?_;refine cndT rfl (by decide) ?_;refine gmy V_ 17 [] λ_=>?_;subst e148;exact rt3 rfl rfl (Fv_ (A_ (Fu_ (A_ (ple rfl) (A_ (ple rfl) (A_ Aq_ (A_ Aq_ (A_ Aq_ A8_)))))) (A_ (ple rfl) (A_ (ple rfl) A8_))))
     refine gx V_ 11 ?_;refine q1 (qidx V_ 0 rfl rfl rfl hc22 rfl rfl rfl rfl) rfl λw153=>?_;refine gx V_ 10 ?_;refine cD e152 (λp155 e156=>?_) (λp171 e172=>?_)
     . have hc157:=getG (xs:=r) (k:=1) (by omega);have hz_hc157:=hpw (gt r 1) (List.mem_of_getElem? hc157);refine gx V_ 3 ?_;refine q1 (qidx V_ 1 rfl rfl rfl hc157 rfl rfl rfl rfl) rfl λw158=>?_;refine gx V_ 1 ?_;refine cV e156 R27_ (Fj_ _) rfl λr7 hr159 e161 w160=>?_;refine gm V_ 17 [] λ_=>?_;refine inlr rfl rfl rfl trivial ?_;refine gx V_ 9 ?_;refine cN e161 (λp165 e166=>?_) (λp169 e170=>?_)
       . refine gmy V_ 17 [] λ_=>?_;subst e166;exact rt3 rfl rfl (Fv_ (A_ (Fu_ (A_ (ple rfl) (A_ (ple rfl) (A_ Aq_ (A_ Aq_ (A_ Aq_ A8_)))))) (A_ (ple rfl) (A_ (ple rfl) A8_))))
       refine gy V_ 7 ?_;refine next ⟨(k+1),r7.1,give_,places,slots,grants,(u_places),(u_slots),(u_grants)⟩ rfl rfl ⟨rfl,trivial⟩ ⟨rfl,rfl,rfl,rfl,trivial⟩ ?_ ?_
       . (try simp only[]);omega
       exact⟨by (try simp only[]);omega,e170,⟨(by (try simp only[List.length_append,List.length_cons,List.length_nil]);omega),(by (try simp only[List.length_append,List.length_cons,List.length_nil]);omega),(by (try simp only[List.length_append,List.length_cons,List.length_nil]);omega)⟩⟩
     refine gx V_ 6 ?_;refine cD e172 (λp174 e175=>?_) (λp190 e191=>?_)
     . have hc176:=getG (xs:=r) (k:=1) (by omega);have hz_hc176:=hpw (gt r 1) (List.mem_of_getElem? hc176);refine gx V_ 3 ?_;refine q1 (qidx V_ 1 rfl rfl rfl hc176 rfl rfl rfl rfl) rfl λw177=>?_;refine gx V_ 1 ?_;refine cV e175 R27_ (Fj_ _) rfl λr8 hr178 e180 w179=>?_;refine gm V_ 17 [] λ_=>?_;refine inlr rfl rfl rfl trivial ?_;refine gx V_ 9 ?_;refine cN e180 (λp184 e185=>?_) (λp188 e189=>?_)
       . refine gmy V_ 17 [] λ_=>?_;subst e185;exact rt3 rfl rfl (Fv_ (A_ (Fu_ (A_ (ple rfl) (A_ (ple rfl) (A_ Aq_ (A_ Aq_ (A_ Aq_ A8_)))))) (A_ (ple rfl) (A_ (ple rfl) A8_))))
       refine gy V_ 7 ?_;refine next ⟨(k+1),work,r8.1,places,slots,grants,(u_places),(u_slots),(u_grants)⟩ rfl rfl ⟨rfl,trivial⟩ ⟨rfl,rfl,rfl,rfl,trivial⟩ ?_ ?_
       . (try simp only[]);omega
       exact⟨by (try simp only[]);omega,e189,⟨(by (try simp only[List.length_append,List.length_cons,List.length_nil]);omega),(by (try simp only[List.length_append,List.length_cons,List.length_nil]);omega),(by (try simp only[List.length_append,List.length_cons,List.length_nil]);omega)⟩⟩
     refine gx V_ 6 ?_;refine cD e191 (λp193 e194=>?_) (λp210 e211=>?_)
     . refine gx V_ 6 ?_;refine aN [5,6,7,8,9,10] 12 mixd ?_;refine gX V_ [0,1,2,3] 8 ?_;have hc195:=getG (xs:=r) (k:=1) (by omega);have hz_hc195:=hpw (gt r 1) (List.mem_of_getElem? hc195);refine vq 4 (qidx V_ 1 rfl rfl rfl hc195 rfl rfl rfl rfl) rfl (by kernel_rfl) rfl λw196=>?_;refine gX V_ [5] 6 ?_;refine vE 6 rfl (Xa_ (E6_ (⟨work,give_,places,slots,grants⟩:E_) _) rfl rfl (.agg (.same _ (.same _ (.lend 2 rfl (.lend 3 rfl (.lend 4 rfl .nil))))) (.same _ .nil)) rfl ?_);generalize hr198:Bn_ (⟨work,give_,places,slots,grants⟩:E_) (gt r 1)=r9;intro w197;have e199:=e194.trans (Dh_ hr198.symm);refine gX V_ [7,8,9,10,11] 0 ?_;refine vD ?_;refine gx V_ 8 ?_;refine ef (bsl 5 i64c [r9.1] V_ rfl rfl rfl rfl rfl (λ_=>rfl) rfl (by decide) (by decide) rfl λu200=>?_);refine ef (app V_ [r9.1] rfl rfl rfl rfl rfl rfl rfl rfl rfl (src_o rfl rfl) (by first|omega|(simp;omega)) rfl λu201=>?_);refine gx V_ 2 ?_;refine ef (Jc_ V_ rfl rfl rfl rfl rfl rfl rfl rfl rfl ?_);refine gx V_ 10 ?_;refine inlr rfl rfl rfl trivial ?_;refine gx V_ 9 ?_;refine cN e199 (λp204 e205=>?_) (λp208 e209=>?_)
       . refine gmy V_ 17 [] λ_=>?_;subst e205;exact rt3 rfl rfl (Fv_ (A_ (Fu_ (A_ (ple rfl) (A_ (ple rfl) (A_ Aq_ (A_ Aq_ (A_ Aq_ A8_)))))) (A_ (ple rfl) (A_ (ple rfl) A8_))))
       refine gy V_ 7 ?_;refine next ⟨(k+1),work,give_,places,(slots++[r9.1]),grants,(u_places),(u201),(u_grants)⟩ rfl rfl ⟨rfl,trivial⟩ ⟨rfl,rfl,rfl,rfl,trivial⟩ ?_ ?_
       . (try simp only[]);omega
       exact⟨by (try simp only[]);omega,e209,⟨(by (try simp only[List.length_append,List.length_cons,List.length_nil]);omega),(by (try simp only[List.length_append,List.length_cons,List.length_nil]);omega),(by (try simp only[List.length_append,List.length_cons,List.length_nil]);omega)⟩⟩
     refine gx V_ 6 ?_;refine cndF rfl h24 ?_;refine gx V_ 4 ?_;refine hinl [] V_ func304 rfl ntmps304 cb304 rfl rfl rfl rfl λHc212 hHc212=>?_;refine gx V_ 6 ?_;refine aN [5,6,7,8,9,10] 12 mixd ?_;refine gX V_ [0,1,2,3] 8 ?_;have hc213:=getG (xs:=r) (k:=1) (by omega);have hz_hc213:=hpw (gt r 1) (List.mem_of_getElem? hc213);refine vq 4 (qidx V_ 1 rfl rfl rfl hc213 rfl rfl rfl rfl) rfl (by kernel_rfl) rfl λw214=>?_;refine gX V_ [5] 6 ?_;refine vE 6 rfl (Xa_ (E6_ (⟨work,give_,places,slots,grants⟩:E_) _) rfl rfl (.agg (.same _ (.same _ (.lend 2 rfl (.lend 3 rfl (.lend 4 rfl .nil))))) (.same _ .nil)) rfl ?_);generalize hr216:Bn_ (⟨work,give_,places,slots,grants⟩:E_) (gt r 1)=r10;intro w215;have e217:=e211.trans (Dh_ hr216.symm);refine gX V_ [7,8,9,10,11] 0 ?_;refine vD ?_;refine gx V_ 8 ?_;refine cE e217 (λh218 e221=>?_) (λh218 e225=>?_)
     . have h219:=Ek_ h218;have p220:=df h219;refine gx V_ 8 ?_;refine inlr rfl rfl rfl trivial ?_;refine gx V_ 6 ?_;refine inlr rfl rfl rfl trivial ?_;refine gx V_ 9 ?_;refine cndT rfl h218 ?_;refine gmy V_ 17 [] λ_=>?_;subst e221;exact rt3 rfl rfl (Fv_ (A_ (Fu_ (A_ (ple rfl) (A_ (ple rfl) (A_ Aq_ (A_ Aq_ (A_ Aq_ A8_)))))) (A_ (ple rfl) (A_ (ple rfl) A8_))))
     have h223:=Di_ h218;have p224:=dt h223;refine gx V_ 3 ?_;refine aN [5,6,7,8,9,10] 12 mixd ?_;refine gX V_ [0,1,2,3] 8 ?_;have hc226:=getG (xs:=r) (k:=2) (by omega);have hz_hc226:=hpw (gt r 2) (List.mem_of_getElem? hc226);refine vq 4 (qidx V_ 2 rfl rfl rfl hc226 rfl rfl rfl rfl) rfl (by kernel_rfl) rfl λw227=>?_;refine gX V_ [5] 6 ?_;refine vE 6 rfl (Xa_ (E6_ (⟨work,give_,places,slots,grants⟩:E_) _) rfl rfl (.agg (.same _ (.same _ (.lend 2 rfl (.lend 3 rfl (.lend 4 rfl .nil))))) (.same _ .nil)) rfl ?_);generalize hr229:Bn_ (⟨work,give_,places,slots,grants⟩:E_) (gt r 2)=r11;intro w228;have e230:=e225.trans (Dh_ hr229.symm);refine gX V_ [7,8,9,10,11] 0 ?_;refine vD ?_;refine gx V_ 8 ?_;refine cE e230 (λh231 e234=>?_) (λh231 e238=>?_)
     . have h232:=Ek_ h231;have p233:=df h232;refine gx V_ 8 ?_;refine inlr rfl rfl rfl trivial ?_;refine gx V_ 6 ?_;refine inlr rfl rfl rfl trivial ?_;refine gx V_ 9 ?_;refine cndT rfl h231 ?_;refine gmy V_ 17 [] λ_=>?_;subst e234;exact rt3 rfl rfl (Fv_ (A_ (Fu_ (A_ (ple rfl) (A_ (ple rfl) (A_ Aq_ (A_ Aq_ (A_ Aq_ A8_)))))) (A_ (ple rfl) (A_ (ple rfl) A8_))))
     have h236:=Di_ h231;have p237:=dt h236;have hc239:=getG (xs:=r) (k:=3) (by omega);have hz_hc239:=hpw (gt r 3) (List.mem_of_getElem? hc239);refine gx V_ 5 ?_;refine q1 (qidx V_ 3 rfl rfl rfl hc239 rfl rfl rfl rfl) rfl λw240=>?_;refine gx V_ 1 ?_;refine cV e238 R27_ (Fj_ _) rfl λr12 hr241 e243 w242=>?_;refine gx V_ 18 ?_;refine ef (bsl 5 Bz_.pc [(⟨r10.1,r11.1,r12.1⟩:Bz_)] V_ rfl rfl rfl rfl rfl (λ_=>rfl) rfl (by decide) (by decide) rfl λu244=>?_);refine ef (app V_ [(⟨r10.1,r11.1,r12.1⟩:Bz_)] rfl rfl rfl rfl rfl rfl rfl rfl rfl (src_o rfl rfl) (by first|omega|(simp;omega)) rfl λu245=>?_);refine gx V_ 2 ?_;refine ef (Jc_ V_ rfl rfl rfl rfl rfl rfl rfl rfl rfl ?_);refine gx V_ 9 ?_;refine inlr rfl rfl rfl trivial ?_;refine gx V_ 6 ?_;refine inlr rfl rfl rfl trivial ?_;refine gx V_ 9 ?_;refine cN e243 (λp248 e249=>?_) (λp252 e253=>?_)
     . refine gmy V_ 17 [] λ_=>?_;subst e249;exact rt3 rfl rfl (Fv_ (A_ (Fu_ (A_ (ple rfl) (A_ (ple rfl) (A_ Aq_ (A_ Aq_ (A_ Aq_ A8_)))))) (A_ (ple rfl) (A_ (ple rfl) A8_))))
     refine gy V_ 7 ?_;refine next ⟨(k+1),work,give_,places,slots,(grants++[(⟨r10.1,r11.1,r12.1⟩:Bz_)]),(u_places),(u_slots),(u245)⟩ rfl rfl ⟨rfl,trivial⟩ ⟨rfl,rfl,rfl,rfl,trivial⟩ ?_ ?_
     . (try simp only[]);omega
     exact⟨by (try simp only[]);omega,e253,⟨(by (try simp only[List.length_append,List.length_cons,List.length_nil]);omega),(by (try simp only[List.length_append,List.length_cons,List.length_nil]);omega),(by (try simp only[List.length_append,List.length_cons,List.length_nil]);omega)⟩⟩
   refine gx V_ 7 ?_;refine cE e255 (λh256 e258=>?_) (λh256 e283=>?_)
   . have p257:=dt h256;refine gx V_ 2 ?_;refine cndT rfl h256 ?_;refine gx V_ 12 ?_;refine cN e258 (λp261 e262=>?_) (λp265 e266=>?_)
     . refine gx V_ 7 ?_;refine inlr rfl rfl rfl trivial ?_;refine gx V_ 9 ?_;refine cndT rfl (by decide) ?_;refine gmy V_ 17 [] λ_=>?_;subst e262;exact rt3 rfl rfl (Fv_ (A_ (Fu_ (A_ (ple rfl) (A_ (ple rfl) (A_ Aq_ (A_ Aq_ (A_ Aq_ A8_)))))) (A_ (ple rfl) (A_ (ple rfl) A8_))))
     refine gx V_ 11 ?_;refine q1 (qidx V_ 0 rfl rfl rfl hc22 rfl rfl rfl rfl) rfl λw267=>?_;refine gx V_ 10 ?_;refine cndT rfl h256 ?_;have hc268:=getG (xs:=r) (k:=1) (by omega);have hz_hc268:=hpw (gt r 1) (List.mem_of_getElem? hc268);refine gx V_ 3 ?_;refine q1 (qidx V_ 1 rfl rfl rfl hc268 rfl rfl rfl rfl) rfl λw269=>?_;refine gx V_ 1 ?_;refine cV e266 R27_ (Fj_ _) rfl λr13 hr270 e272 w271=>?_;refine gm V_ 17 [] λ_=>?_;refine inlr rfl rfl rfl trivial ?_;refine gx V_ 9 ?_;refine cN e272 (λp276 e277=>?_) (λp280 e281=>?_)
     . refine gmy V_ 17 [] λ_=>?_;subst e277;exact rt3 rfl rfl (Fv_ (A_ (Fu_ (A_ (ple rfl) (A_ (ple rfl) (A_ Aq_ (A_ Aq_ (A_ Aq_ A8_)))))) (A_ (ple rfl) (A_ (ple rfl) A8_))))
     refine gy V_ 7 ?_;refine next ⟨(k+1),r13.1,give_,places,slots,grants,(u_places),(u_slots),(u_grants)⟩ rfl rfl ⟨rfl,trivial⟩ ⟨rfl,rfl,rfl,rfl,trivial⟩ ?_ ?_
     . (try simp only[]);omega
     exact⟨by (try simp only[]);omega,e281,⟨(by (try simp only[List.length_append,List.length_cons,List.length_nil]);omega),(by (try simp only[List.length_append,List.length_cons,List.length_nil]);omega),(by (try simp only[List.length_append,List.length_cons,List.length_nil]);omega)⟩⟩
   have p282:=df h256;refine gx V_ 6 ?_;refine cE e283 (λh284 e286=>?_) (λh284 e311=>?_)
   . have p285:=dt h284;refine gx V_ 2 ?_;refine cndT rfl h284 ?_;refine gx V_ 12 ?_;refine cN e286 (λp289 e290=>?_) (λp293 e294=>?_)
     . refine gx V_ 7 ?_;refine inlr rfl rfl rfl trivial ?_;refine gx V_ 9 ?_;refine cndT rfl (by decide) ?_;refine gmy V_ 17 [] λ_=>?_;subst e290;exact rt3 rfl rfl (Fv_ (A_ (Fu_ (A_ (ple rfl) (A_ (ple rfl) (A_ Aq_ (A_ Aq_ (A_ Aq_ A8_)))))) (A_ (ple rfl) (A_ (ple rfl) A8_))))
     refine gx V_ 11 ?_;refine q1 (qidx V_ 0 rfl rfl rfl hc22 rfl rfl rfl rfl) rfl λw295=>?_;refine gx V_ 10 ?_;refine cndF rfl h256 ?_;refine gx V_ 6 ?_;refine cndT rfl h284 ?_;have hc296:=getG (xs:=r) (k:=1) (by omega);have hz_hc296:=hpw (gt r 1) (List.mem_of_getElem? hc296);refine gx V_ 3 ?_;refine q1 (qidx V_ 1 rfl rfl rfl hc296 rfl rfl rfl rfl) rfl λw297=>?_;refine gx V_ 1 ?_;refine cV e294 R27_ (Fj_ _) rfl λr14 hr298 e300 w299=>?_;refine gm V_ 17 [] λ_=>?_;refine inlr rfl rfl rfl trivial ?_;refine gx V_ 9 ?_;refine cN e300 (λp304 e305=>?_) (λp308 e309=>?_)
     . refine gmy V_ 17 [] λ_=>?_;subst e305;exact rt3 rfl rfl (Fv_ (A_ (Fu_ (A_ (ple rfl) (A_ (ple rfl) (A_ Aq_ (A_ Aq_ (A_ Aq_ A8_)))))) (A_ (ple rfl) (A_ (ple rfl) A8_))))
     refine gy V_ 7 ?_;refine next ⟨(k+1),work,r14.1,places,slots,grants,(u_places),(u_slots),(u_grants)⟩ rfl rfl ⟨rfl,trivial⟩ ⟨rfl,rfl,rfl,rfl,trivial⟩ ?_ ?_
     . (try simp only[]);omega
     exact⟨by (try simp only[]);omega,e309,⟨(by (try simp only[List.length_append,List.length_cons,List.length_nil]);omega),(by (try simp only[List.length_append,List.length_cons,List.length_nil]);omega),(by (try simp only[List.length_append,List.length_cons,List.length_nil]);omega)⟩⟩
   have p310:=df h284;refine gx V_ 5 ?_;refine cE e311 (λh312 e314=>?_) (λh312 e340=>?_)
   . have p313:=dt h312;refine gx V_ 12 ?_;refine cN e314 (λp317 e318=>?_) (λp321 e322=>?_)
     . refine gx V_ 7 ?_;refine inlr rfl rfl rfl trivial ?_;refine gx V_ 9 ?_;refine cndT rfl (by decide) ?_;refine gmy V_ 17 [] λ_=>?_;subst e318;exact rt3 rfl rfl (Fv_ (A_ (Fu_ (A_ (ple rfl) (A_ (ple rfl) (A_ Aq_ (A_ Aq_ (A_ Aq_ A8_)))))) (A_ (ple rfl) (A_ (ple rfl) A8_))))
     refine gx V_ 11 ?_;refine q1 (qidx V_ 0 rfl rfl rfl hc22 rfl rfl rfl rfl) rfl λw323=>?_;refine gx V_ 10 ?_;refine cndF rfl h256 ?_;refine gx V_ 6 ?_;refine cndF rfl h284 ?_;refine gx V_ 6 ?_;refine cndT rfl h312 ?_;refine gx V_ 6 ?_;refine aN [5,6,7,8,9,10] 12 mixd ?_;refine gX V_ [0,1,2,3] 8 ?_;have hc324:=getG (xs:=r) (k:=1) (by omega);have hz_hc324:=hpw (gt r 1) (List.mem_of_getElem? hc324);refine vq 4 (qidx V_ 1 rfl rfl rfl hc324 rfl rfl rfl rfl) rfl (by kernel_rfl) rfl λw325=>?_;refine gX V_ [5] 6 ?_;refine vE 6 rfl (Xa_ (E6_ (⟨work,give_,places,slots,grants⟩:E_) _) rfl rfl (.agg (.same _ (.same _ (.lend 2 rfl (.lend 3 rfl (.lend 4 rfl .nil))))) (.same _ .nil)) rfl ?_);generalize hr327:Bn_ (⟨work,give_,places,slots,grants⟩:E_) (gt r 1)=r15;intro w326;have e328:=e322.trans (Dh_ hr327.symm);refine gX V_ [7,8,9,10,11] 0 ?_;refine vD ?_;refine gx V_ 8 ?_;refine ef (bsl 5 i64c [r15.1] V_ rfl rfl rfl rfl rfl (λ_=>rfl) rfl (by decide) (by decide) rfl λu329=>?_);refine ef (app V_ [r15.1] rfl rfl rfl rfl rfl rfl rfl rfl rfl (src_o rfl rfl) (by first|omega|(simp;omega)) rfl λu330=>?_);refine gx V_ 2 ?_;refine ef (Jc_ V_ rfl rfl rfl rfl rfl rfl rfl rfl rfl ?_);refine gx V_ 10 ?_;refine inlr rfl rfl rfl trivial ?_;refine gx V_ 9 ?_;refine cN e328 (λp333 e334=>?_) (λp337 e338=>?_)
     . refine gmy V_ 17 [] λ_=>?_;subst e334;exact rt3 rfl rfl (Fv_ (A_ (Fu_ (A_ (ple rfl) (A_ (ple rfl) (A_ Aq_ (A_ Aq_ (A_ Aq_ A8_)))))) (A_ (ple rfl) (A_ (ple rfl) A8_))))
     refine gy V_ 7 ?_;refine next ⟨(k+1),work,give_,places,(slots++[r15.1]),grants,(u_places),(u330),(u_grants)⟩ rfl rfl ⟨rfl,trivial⟩ ⟨rfl,rfl,rfl,rfl,trivial⟩ ?_ ?_
     . (try simp only[]);omega
     exact⟨by (try simp only[]);omega,e338,⟨(by (try simp only[List.length_append,List.length_cons,List.length_nil]);omega),(by (try simp only[List.length_append,List.length_cons,List.length_nil]);omega),(by (try simp only[List.length_append,List.length_cons,List.length_nil]);omega)⟩⟩
   have p339:=df h312;refine gx V_ 8 ?_;refine inlr rfl rfl rfl trivial ?_;refine gx V_ 9 ?_;refine cndT rfl (by decide) ?_;refine gmy V_ 17 [] λ_=>?_;subst e340;exact rt3 rfl rfl (Fv_ (A_ (Fu_ (A_ (ple rfl) (A_ (ple rfl) (A_ Aq_ (A_ Aq_ (A_ Aq_ A8_)))))) (A_ (ple rfl) (A_ (ple rfl) A8_))))
 have p342:=df h6;have e343:=C6_ (f:=λzz=>Bu_ zz k work give_ places slots grants) hp5_2 (Gp_ (by omega)) (Bu_.eq_1 _ _ _ _ _ _);refine gx V_ 8 ?_;refine give 2 rfl ?_;refine give 3 rfl ?_;refine give 4 rfl ?_;refine gx V_ 1 ?_;refine cV e343 R0_ (Mq_ (⟨work,give_,places,slots,grants⟩:E_)) rfl λr16 hr344 e346 w345=>?_;refine gx V_ 9 ?_;refine cN e346 (λp349 e350=>?_) (λp353 e354=>?_)
 . refine gm V_ 11 [] λ_=>?_;subst e350;exact rt3 rfl rfl (Fv_ (A_ (Fu_ (A_ (ple rfl) (A_ (ple rfl) (A_ Aq_ (A_ Aq_ (A_ Aq_ A8_)))))) (A_ (ple rfl) (A_ (ple rfl) A8_))))
 refine gm V_ 11 [] λ_=>?_;subst e354;exact qr3
abbrev R29_:(E_×Int×Int)->PV:=λr=> .tup [.agg (E_.pc r.1), .int .i64 r.2.1, .int .i64 r.2.2]
abbrev R30_:(Eh_×Bool)->PV:=λr=> .tup [.agg (Eh_.pc r.1), .bool r.2]
abbrev R31_:(Bc_×Int)->PV:=λr=> .tup [.agg (Bc_.pc r.1), .int .i64 r.2]
abbrev R32_:(Int×Mail×Bool)->PV:=λr=> .tup [.int .u64 r.1, .agg (Mail.pc r.2.1), .bool r.2.2]
theorem Xv_:Fn prog gb 142 [] (.bool (Sk_)):=by
 refine kG func142 ntmps142 λw N H hG=>?_;have e0:=Sk_.eq_1;refine kA 7 ?_;refine cV e0 R28_ (If_ _) rfl λr hr1 e3 w2=>?_;refine kB 10 [0] λB5=>?_;refine cV e3 R28_ (If_ _) rfl λr1 hr6 e8 w7=>?_;refine kB 10 [1] λB10=>?_;refine cV e8 R28_ (If_ _) rfl λr2 hr11 e13 w12=>?_;refine kB 10 [2] λB15=>?_;refine call Si_ rfl rfl λw16=>?_;refine kA 1 ?_;refine ungd rfl rfl ?_;refine kA 1 ?_;refine ungd rfl rfl ?_;refine kC 13 ?_;refine callg rfl (λhc=>(G5_ _ _)) rfl ⟨(λhc=>hc),(λhc=>hc),trivial⟩ rfl rfl λ_=>?_;refine kC 4 ?_;refine callg rfl (λhc=>(G5_ _ _)) rfl ⟨(λhc=>hc),(λhc=>hc),trivial⟩ rfl rfl λ_=>?_;refine kC 5 ?_;refine callg rfl (λhc=>(G5_ _ _)) rfl ⟨(λhc=>hc),(λhc=>hc),trivial⟩ rfl rfl λ_=>?_;refine kC 6 ?_;exact rt1 rfl rfl (Aj_ (λr:Bool=> .bool r) e13 (ple rfl))
theorem Xu_:Fn prog gb 68 [] (.bool (Sj_)):=by
 refine kG func68 ntmps68 λw N H hG=>?_;have e0:=Sj_.eq_1;refine kA 7 ?_;refine call Xv_ rfl rfl λw1=>?_;refine kA 4 ?_;exact rt1 rfl rfl (Aj_ (λr:Bool=> .bool r) e0 (ple rfl))
theorem Xy_:Fn prog gb 218 [] (.bool (Sn_)):=by
 refine kG func218 ntmps218 λw N H hG=>?_;have e0:=Sn_.eq_1;refine kA 7 ?_;refine cV e0 R29_ (Ti_ _ (hs:=by exact plen05)) rfl λr hr1 e3 w2=>?_;refine kB 12 [0] λB5=>?_;refine call Xu_ rfl rfl λw6=>?_;refine kA 1 ?_;refine callg rfl (λhc=>Mz_) rfl trivial rfl rfl λ_=>?_;refine kC 23 ?_;refine q1g [34] rfl (λhc=>qidx F_ 0 rfl rfl rfl (getG (by first|omega|(simp only[gOf,bl2] at *;omega))) rfl rfl rfl rfl) ⟨(λhc=>hc),trivial⟩ rfl rfl rfl λ_=>?_;refine kC 8 ?_;exact rt1 rfl rfl (Aj_ (λr:Bool=> .bool r) e3 (ple rfl))
theorem Xw_:Fn prog gb 156 [] (.bool (Sl_)):=by
 refine kG func156 ntmps156 λw N H hG=>?_;have e0:=Sl_.eq_1;refine kA 7 ?_;refine call Xy_ rfl rfl λw1=>?_;refine kA 4 ?_;exact rt1 rfl rfl (Aj_ (λr:Bool=> .bool r) e0 (ple rfl))
theorem X2_:Fn prog gb 289 [] (.bool (Sq_)):=by
 refine kG func289 ntmps289 λw N H hG=>?_;have e0:=Sq_.eq_1;refine kA 9 ?_;refine cV e0 R2_ (Jt_ (⟨[]⟩:Ac_) (⟨3,[97],[],[],[],0,0⟩:Mail) (hh:=by first|omega|decide)) rfl λr hr1 e3 w2=>?_;have hA3:=V9_ (l:=(⟨[]⟩:Ac_)) (m:=(⟨3,[97],[],[],[],0,0⟩:Mail)) (by first|assumption|exact Pl_) (by decide)
 (try rw[<- hr1] at hA3)
 refine kB 12 [0] λB6=>?_;refine cV e3 R2_ (Jt_ _ (⟨5,[97],[],[],[],0,0⟩:Mail) (hh:=by first|omega|decide)) rfl λr1 hr7 e9 w8=>?_;have hA9:=V9_ (l:=r.1) (m:=(⟨5,[97],[],[],[],0,0⟩:Mail)) (by first|assumption|exact Pl_) (by decide)
 (try rw[<- hr7] at hA9)
 refine kB 10 [] λ_=>?_;refine cV e9 R7_ (I6_ _) rfl λr2 hr12 e14 w13=>?_
 (try have hA14:=Ra_ (l:=r1.1) (by assumption);(try rw[<- hr12] at hA14);obtain⟨hA14_0,hA14_1⟩:=hA14)
 refine kB 13 [1] λB17=>?_;refine cV e14 R7_ (I6_ _) rfl λr3 hr18 e20 w19=>?_
 (try have hA20:=Ra_ (l:=r2.1) (by assumption);(try rw[<- hr18] at hA20);obtain⟨hA20_0,hA20_1⟩:=hA20)
 refine kB 13 [2] λB23=>?_;refine cV e20 R2_ (Ls_ _ _) rfl λr4 hr24 e26 w25=>?_;have hA26:=Wa_ (l:=r3.1) (id:=3) (by assumption)
 (try rw[<- hr24] at hA26)
 refine kB 10 [] λ_=>?_;refine cV e26 R4_ (K3_ _) rfl λr5 hr29 e31 w30=>?_;refine kB 10 [3] λB33=>?_;refine call So_ rfl rfl λw34=>?_;refine kA 1 ?_;refine ungd rfl rfl ?_;refine kA 1 ?_;refine ungd rfl rfl ?_;refine kC 40 ?_;exact rt1 rfl rfl (Aj_ (λr:Bool=> .bool r) e31 (ple rfl))
theorem X1_:Fn prog gb 260 [] (.bool (Sp_)):=by
 refine kG func260 ntmps260 λw N H hG=>?_;have e0:=Sp_.eq_1;refine kA 7 ?_;refine call X2_ rfl rfl λw1=>?_;refine kA 4 ?_;exact rt1 rfl rfl (Aj_ (λr:Bool=> .bool r) e0 (ple rfl))
theorem X4_:Fn prog gb 221 [] (.bool (Pa_)):=by
 refine kG func221 ntmps221 λw N H hG=>?_;have e0:=Pa_.eq_1;refine kB 17 [0] λB2=>?_;refine loop (ι:=Nat×Nat×B4_) [0,1] [] (λ⟨f,v,x⟩=>[(7, .int .i64 (v:Int))]) (λ⟨f,v,x⟩=>[(0, .box (B2 0) 46 (B4_.pc x))]) (λ⟨f,v,x⟩=>40-v<f/\Pa_=K0_ f v x/\x.kept.length<=32) (λ⟨f,v,x⟩=>f) ⟨(40-0+1),0,(⟨0,[]⟩:B4_)⟩ ⟨rfl,trivial⟩ ⟨rfl,trivial⟩ ?_ ?_
 . exact⟨Nat.lt_succ_self _,e0,by decide⟩
 rintro⟨f,v,x⟩ ⟨hp3_1,hp3_2,hp3_3⟩;obtain⟨f1,rfl⟩:∃ q,f=q+1:=⟨f-1,by omega⟩;have e_f1:=hp3_2.trans (K0_.eq_2 _ _ _);refine kA 6 ?_;refine cD e_f1 (λp5 e6=>?_) (λp12 e13=>?_)
 . refine kA 15 ?_;refine cV e6 R9_ (Iu_ _ (⟨0,(IntKind.wrap .u8 (v:Int)),[]⟩:Eh_)) rfl λr hr7 e9 w8=>?_;have hA9:=Wj_ (n:=x) (x:=(⟨0,(IntKind.wrap .u8 (v:Int)),[]⟩:Eh_)) (by assumption)
   (try rw[<- hr7] at hA9)
   refine kD 11 [] λ_=>?_;refine next ⟨f1,(v+1),r.1⟩ rfl rfl ⟨rfl,trivial⟩ ⟨rfl,trivial⟩ ?_ ?_
   . (try simp only[]);omega
   exact⟨by (try simp only[]);omega,e9,by assumption⟩
 refine kA 8 ?_;refine cV e13 R30_ (K7_ _ _) rfl λr1 hr14 e16 w15=>?_;refine kB 11 [1] λB18=>?_;refine cV e16 R30_ (K7_ _ _) rfl λr2 hr19 e21 w20=>?_;refine kB 10 [2] λB23=>?_;refine call Si_ rfl rfl λw24=>?_;refine kA 1 ?_;refine ungd rfl rfl ?_;refine kC 13 ?_;refine callg rfl (λhc=>(N6_ _)) rfl ⟨(λhc=>hc),trivial⟩ rfl rfl λ_=>?_;refine kC 6 ?_;exact rt1 rfl rfl (Aj_ (λr:Bool=> .bool r) e21 (ple rfl))
theorem X3_:Fn prog gb 159 [] (.bool (Sr_)):=by
 refine kG func159 ntmps159 λw N H hG=>?_;have e0:=Sr_.eq_1;refine kA 7 ?_;refine call X4_ rfl rfl λw1=>?_;refine kA 4 ?_;exact rt1 rfl rfl (Aj_ (λr:Bool=> .bool r) e0 (ple rfl))
theorem X6_:Fn prog gb 290 [] (.bool (Pb_)):=by
 refine kG func290 ntmps290 λw N H hG=>?_;have e0:=Pb_.eq_1;refine kB 17 [0] λB2=>?_;refine loop (ι:=Nat×Nat×Bc_) [0,1] [] (λ⟨f,v,x⟩=>[(8, .int .i64 (v:Int))]) (λ⟨f,v,x⟩=>[(0, .box (B2 0) 40 (Bc_.pc x))]) (λ⟨f,v,x⟩=>20-v<f/\Pb_=K1_ f v x/\RiOk x/\(x.total=0\/0<x.kept.length)) (λ⟨f,v,x⟩=>f) ⟨(20-0+1),0,(⟨0,[]⟩:Bc_)⟩ ⟨rfl,trivial⟩ ⟨rfl,trivial⟩ ?_ ?_
 . exact⟨Nat.lt_succ_self _,e0,⟨Wp_, .inl rfl⟩⟩
 rintro⟨f,v,x⟩ ⟨hp3_1,hp3_2,hp3_3⟩;obtain⟨hi1,hi2⟩:=hp3_3;obtain⟨f1,rfl⟩:∃ q,f=q+1:=⟨f-1,by omega⟩;have e_f1:=hp3_2.trans (K1_.eq_2 _ _ _);refine kA 6 ?_;refine cD e_f1 (λp5 e6=>?_) (λp13 e14=>?_)
 . refine kA 7 ?_;refine cV e6 R31_ (Ig_ _ (⟨0,[97],[],[],[],0,0⟩:Mail) (hh:=by first|omega|decide)) rfl λr hr7 e9 w8=>?_;have hA9:=rput_ok (x:=x) (m:=(⟨0,[97],[],[],[],0,0⟩:Mail)) (by assumption)
   (try rw[<- hr7] at hA9)
   have hA10:=rput_ne (x:=x) (m:=(⟨0,[97],[],[],[],0,0⟩:Mail)) (by assumption)
   (try rw[<- hr7] at hA10)
   refine kD 11 [] λ_=>?_;refine next ⟨f1,(v+1),r.1⟩ rfl rfl ⟨rfl,trivial⟩ ⟨rfl,trivial⟩ ?_ ?_
   . (try simp only[]);omega
   exact⟨by (try simp only[]);omega,e9,⟨by assumption,by assumption⟩⟩
 refine kA 8 ?_;refine cV e14 R32_ (Lb_ _ _) rfl λr1 hr15 e17 w16=>?_;refine kB 13 [1] λB19=>?_;refine cV e17 R32_ (Lb_ _ _) rfl λr2 hr20 e22 w21=>?_;refine kB 12 [2] λB24=>?_;refine call So_ rfl rfl λw25=>?_;refine kA 1 ?_;refine ungd rfl rfl ?_;refine kA 1 ?_;refine ungd rfl rfl ?_;refine kC 13 ?_;exact rt1 rfl rfl (Aj_ (λr:Bool=> .bool r) e22 (ple rfl))
theorem X5_:Fn prog gb 261 [] (.bool (Ss_)):=by
 refine kG func261 ntmps261 λw N H hG=>?_;have e0:=Ss_.eq_1;refine kA 7 ?_;refine call X6_ rfl rfl λw1=>?_;refine kA 4 ?_;exact rt1 rfl rfl (Aj_ (λr:Bool=> .bool r) e0 (ple rfl))
theorem X8_:Fn prog gb 219 [] (.bool (Su_)):=by
 refine kG func219 ntmps219 λw N H hG=>?_;have e0:=Su_.eq_1;refine kA 7 ?_;refine cV e0 R6_ (Nh_ _ _) rfl λr hr1 e3 w2=>?_;have hA3:=Z7_ 7 100 (by decide)
 (try rw[<- hr1] at hA3)
 refine kA 1 ?_;refine cV e3 R11_ (Ij_ _ (⟨[113],3,0,[]⟩:U_)) rfl λr1 hr5 e7 w6=>?_;have hA7:=Mb_ (q:=(⟨[113],3,0,[]⟩:U_)) (s:=r) (by first|assumption|exact StOk.stk (by assumption))
 (try rw[<- hr5] at hA7)
 refine kB 12 [0] λB10=>?_;refine cV e7 R17_ (Le_ _ _ (⟨0,[97],[],[],[],0,0⟩:Mail) (hh:=by first|omega|decide)) rfl λr2 hr11 e13 w12=>?_
 (try have hA13:=V6_ (s:=r1.1) (n:=[113]) (m:=(⟨0,[97],[],[],[],0,0⟩:Mail)) (by first|assumption|exact StOk.stk (by assumption)) (by (try simp only[]);omega);(try rw[<- hr11] at hA13);obtain⟨hA13_0,hA13_1,hA13_2⟩:=hA13)
 refine kB 15 [1,2] λB16=>?_;refine call Mz_ rfl rfl λw18=>?_;refine kA 1 ?_;refine ungd rfl rfl ?_;refine call X1_ rfl rfl λw19=>?_;refine kA 2 ?_;refine callg rfl (λhc=>X5_) rfl trivial rfl rfl λ_=>?_;refine kC 17 ?_;exact rt1 rfl rfl (Aj_ (λr:Bool=> .bool r) e13 (ple rfl))
theorem X7_:Fn prog gb 157 [] (.bool (St_)):=by
 refine kG func157 ntmps157 λw N H hG=>?_;have e0:=St_.eq_1;refine kA 7 ?_;refine call X8_ rfl rfl λw1=>?_;refine kA 4 ?_;exact rt1 rfl rfl (Aj_ (λr:Bool=> .bool r) e0 (ple rfl))
theorem cb155:An_ prog 155:=Ad_ func155 (by kernel_rfl) (by kernel_rfl)
theorem Yb_:Fn prog gb 83 [] (.bool (Pd_)):=by
 refine kG func83 ntmps83 λw N H hG=>?_;have e0:=Pd_.eq_1;refine kA 7 ?_;refine hinl [] F_ func155 rfl ntmps155 cb155 rfl rfl rfl rfl λHc1 hHc1=>?_;refine kB 8 [0] λB3=>?_;refine ef (bsl 1 A5_.pc [(⟨[108,111,119],(⟨0,0⟩:C4_),500,1⟩:A5_)] F_ rfl rfl rfl rfl rfl (λ_=>rfl) rfl (by decide) (by decide) rfl λu4=>?_);refine ef (bsl 2 i64c [0] F_ rfl rfl rfl rfl rfl (λ_=>rfl) rfl (by decide) (by decide) rfl λu5=>?_);refine give 1 rfl ?_;refine give 2 rfl ?_;refine kB 5 [] λ_=>?_;refine inlr rfl rfl rfl trivial ?_;refine cV e0 R21_ (Js_ (⟨4,1,[(⟨[108,111,119],(⟨0,0⟩:C4_),500,1⟩:A5_)],[0],[]⟩:E_) _ (hp:=by first|assumption|exact Nc_ (by decide +kernel)) (hk:=by first|omega|decide +kernel)) rfl λr hr7 e9 w8=>?_;have hA9:=Ly_ (p:=(⟨4,1,[(⟨[108,111,119],(⟨0,0⟩:C4_),500,1⟩:A5_)],[0],[]⟩:E_)) (k:=0) (by first|assumption|exact Nc_ (by decide +kernel)) (by first|omega|(simp;done)|decide +kernel)
 (try rw[<- hr7] at hA9)
 refine kB 13 [1] λB12=>?_;refine ef (bsl 2 O_.pc [(⟨0,0,(⟨[97],1,[]⟩:W_),(⟨[],0,0,[]⟩:U_),(⟨[],[],false,[],[],false⟩:Q_),[],0,0,0,0,0,(⟨0,[],[],[],[],0,0⟩:Mail),[]⟩:O_),(⟨2,0,(⟨[],0,[]⟩:W_),(⟨[113],4,0,[]⟩:U_),(⟨[],[],false,[],[],false⟩:Q_),[],0,0,0,0,0,(⟨0,[],[],[],[],0,0⟩:Mail),[]⟩:O_),(⟨4,0,(⟨[],0,[]⟩:W_),(⟨[],0,0,[]⟩:U_),(⟨[97],[113],false,[],[],false⟩:Q_),[],0,0,0,0,0,(⟨0,[],[],[],[],0,0⟩:Mail),[]⟩:O_)] F_ rfl rfl rfl rfl rfl (λ_=>rfl) rfl (by decide) (by decide) rfl λu13=>?_);refine kA 5 ?_;refine givec 2 rfl ?_;refine loop (ι:=Nat×Nat×C_) [1,20,21] [0] (λ⟨f,v,x⟩=>[(22, .int .i64 (v:Int))]) (λ⟨f,v,x⟩=>[(1, .box (B12 0) 54 (C_.pc x))]) (λ⟨f,v,x⟩=>([(⟨0,0,(⟨[97],1,[]⟩:W_),(⟨[],0,0,[]⟩:U_),(⟨[],[],false,[],[],false⟩:Q_),[],0,0,0,0,0,(⟨0,[],[],[],[],0,0⟩:Mail),[]⟩:O_),(⟨2,0,(⟨[],0,[]⟩:W_),(⟨[113],4,0,[]⟩:U_),(⟨[],[],false,[],[],false⟩:Q_),[],0,0,0,0,0,(⟨0,[],[],[],[],0,0⟩:Mail),[]⟩:O_),(⟨4,0,(⟨[],0,[]⟩:W_),(⟨[],0,0,[]⟩:U_),(⟨[97],[113],false,[],[],false⟩:Q_),[],0,0,0,0,0,(⟨0,[],[],[],[],0,0⟩:Mail),[]⟩:O_)].length)-v<f/\Pd_=K2_ f v x/\StOk x) (λ⟨f,v,x⟩=>f) ⟨(([(⟨0,0,(⟨[97],1,[]⟩:W_),(⟨[],0,0,[]⟩:U_),(⟨[],[],false,[],[],false⟩:Q_),[],0,0,0,0,0,(⟨0,[],[],[],[],0,0⟩:Mail),[]⟩:O_),(⟨2,0,(⟨[],0,[]⟩:W_),(⟨[113],4,0,[]⟩:U_),(⟨[],[],false,[],[],false⟩:Q_),[],0,0,0,0,0,(⟨0,[],[],[],[],0,0⟩:Mail),[]⟩:O_),(⟨4,0,(⟨[],0,[]⟩:W_),(⟨[],0,0,[]⟩:U_),(⟨[97],[113],false,[],[],false⟩:Q_),[],0,0,0,0,0,(⟨0,[],[],[],[],0,0⟩:Mail),[]⟩:O_)].length)-0+1),0,r⟩ ⟨rfl,trivial⟩ ⟨rfl,trivial⟩ ?_ ?_
 . exact⟨Nat.lt_succ_self _,e9,by assumption⟩
 rintro⟨f,v,x⟩ ⟨hp14_1,hp14_2,hp14_3⟩;have hlen0:([(⟨0,0,(⟨[97],1,[]⟩:W_),(⟨[],0,0,[]⟩:U_),(⟨[],[],false,[],[],false⟩:Q_),[],0,0,0,0,0,(⟨0,[],[],[],[],0,0⟩:Mail),[]⟩:O_),(⟨2,0,(⟨[],0,[]⟩:W_),(⟨[113],4,0,[]⟩:U_),(⟨[],[],false,[],[],false⟩:Q_),[],0,0,0,0,0,(⟨0,[],[],[],[],0,0⟩:Mail),[]⟩:O_),(⟨4,0,(⟨[],0,[]⟩:W_),(⟨[],0,0,[]⟩:U_),(⟨[97],[113],false,[],[],false⟩:Q_),[],0,0,0,0,0,(⟨0,[],[],[],[],0,0⟩:Mail),[]⟩:O_)]).length<=100:=by decide
 obtain⟨f1,rfl⟩:∃ q,f=q+1:=⟨f-1,by omega⟩;have e_f1:=hp14_2.trans (K2_.eq_2 _ _ _);refine kA 6 ?_;refine cD e_f1 (λp16 e17=>?_) (λp37 e38=>?_)
 . have hc18:=getG (xs:=[(⟨0,0,(⟨[97],1,[]⟩:W_),(⟨[],0,0,[]⟩:U_),(⟨[],[],false,[],[],false⟩:Q_),[],0,0,0,0,0,(⟨0,[],[],[],[],0,0⟩:Mail),[]⟩:O_),(⟨2,0,(⟨[],0,[]⟩:W_),(⟨[113],4,0,[]⟩:U_),(⟨[],[],false,[],[],false⟩:Q_),[],0,0,0,0,0,(⟨0,[],[],[],[],0,0⟩:Mail),[]⟩:O_),(⟨4,0,(⟨[],0,[]⟩:W_),(⟨[],0,0,[]⟩:U_),(⟨[97],[113],false,[],[],false⟩:Q_),[],0,0,0,0,0,(⟨0,[],[],[],[],0,0⟩:Mail),[]⟩:O_)]) (k:=v) (by omega);have hz_hc18:=ddB_ok (l:=[(⟨0,0,(⟨[97],1,[]⟩:W_),(⟨[],0,0,[]⟩:U_),(⟨[],[],false,[],[],false⟩:Q_),[],0,0,0,0,0,(⟨0,[],[],[],[],0,0⟩:Mail),[]⟩:O_),(⟨2,0,(⟨[],0,[]⟩:W_),(⟨[113],4,0,[]⟩:U_),(⟨[],[],false,[],[],false⟩:Q_),[],0,0,0,0,0,(⟨0,[],[],[],[],0,0⟩:Mail),[]⟩:O_),(⟨4,0,(⟨[],0,[]⟩:W_),(⟨[],0,0,[]⟩:U_),(⟨[97],[113],false,[],[],false⟩:Q_),[],0,0,0,0,0,(⟨0,[],[],[],[],0,0⟩:Mail),[]⟩:O_)]) (by decide +kernel) (gt [(⟨0,0,(⟨[97],1,[]⟩:W_),(⟨[],0,0,[]⟩:U_),(⟨[],[],false,[],[],false⟩:Q_),[],0,0,0,0,0,(⟨0,[],[],[],[],0,0⟩:Mail),[]⟩:O_),(⟨2,0,(⟨[],0,[]⟩:W_),(⟨[113],4,0,[]⟩:U_),(⟨[],[],false,[],[],false⟩:Q_),[],0,0,0,0,0,(⟨0,[],[],[],[],0,0⟩:Mail),[]⟩:O_),(⟨4,0,(⟨[],0,[]⟩:W_),(⟨[],0,0,[]⟩:U_),(⟨[97],[113],false,[],[],false⟩:Q_),[],0,0,0,0,0,(⟨0,[],[],[],[],0,0⟩:Mail),[]⟩:O_)] v) (List.mem_of_getElem? hc18);have hy_hc18:=hz_hc18.1;have hx_hc18:=hz_hc18.2;refine kA 6 ?_;refine kI v hc18 λw19=>?_;refine kB 9 [2] λB21=>?_;refine cV e17 R22_ (Er_ _ _ (hd:=by first|assumption|exact dd1 (by decide +kernel)|exact⟨by first|(simp;done)|omega,by first|(simp;done)|omega,by first|(simp;done)|((try dsimp only);omega),by first|(simp;done)|((try dsimp only);omega)⟩)) rfl λr1 hr22 e24 w23=>?_;have hA24:=Ru_ (s:=x) (d:=(gt [(⟨0,0,(⟨[97],1,[]⟩:W_),(⟨[],0,0,[]⟩:U_),(⟨[],[],false,[],[],false⟩:Q_),[],0,0,0,0,0,(⟨0,[],[],[],[],0,0⟩:Mail),[]⟩:O_),(⟨2,0,(⟨[],0,[]⟩:W_),(⟨[113],4,0,[]⟩:U_),(⟨[],[],false,[],[],false⟩:Q_),[],0,0,0,0,0,(⟨0,[],[],[],[],0,0⟩:Mail),[]⟩:O_),(⟨4,0,(⟨[],0,[]⟩:W_),(⟨[],0,0,[]⟩:U_),(⟨[97],[113],false,[],[],false⟩:Q_),[],0,0,0,0,0,(⟨0,[],[],[],[],0,0⟩:Mail),[]⟩:O_)] v)) (by assumption) (by first|assumption|exact dd1 (by decide +kernel)|exact⟨by first|(simp;done)|omega,by first|(simp;done)|omega,by first|(simp;done)|((try dsimp only);omega),by first|(simp;done)|((try dsimp only);omega)⟩) (by first|assumption|omega|(dsimp only;omega)|decide +kernel)
   (try rw[<- hr22] at hA24)
   refine kB 18 [3,4] λB27=>?_;refine cN e24 (λp31 e32=>?_) (λp34 e35=>?_)
   . refine kA 12 ?_;exact rt1 rfl rfl (Aj_ (λr:Bool=> .bool r) e32 (ple rfl))
   refine kD 12 [] λ_=>?_;refine next ⟨f1,(v+1),r1.1⟩ rfl rfl ⟨rfl,trivial⟩ ⟨rfl,trivial⟩ ?_ ?_
   . (try simp only[]);omega
   exact⟨by (try simp only[]);omega,e35,by assumption⟩
 refine kA 10 ?_;refine cV e38 R22_ (Er_ _ (⟨6,0,(⟨[],0,[]⟩:W_),(⟨[],0,0,[]⟩:U_),(⟨[],[],false,[],[],false⟩:Q_),[],0,0,0,0,0,(⟨0,[97],[],[],[120],0,0⟩:Mail),[]⟩:O_) (hd:=by first|assumption|exact dd1 (by decide +kernel)|exact⟨by first|(simp;done)|omega,by first|(simp;done)|omega,by first|(simp;done)|((try dsimp only);omega),by first|(simp;done)|((try dsimp only);omega)⟩)) rfl λr2 hr39 e41 w40=>?_;have hA41:=Ru_ (s:=x) (d:=(⟨6,0,(⟨[],0,[]⟩:W_),(⟨[],0,0,[]⟩:U_),(⟨[],[],false,[],[],false⟩:Q_),[],0,0,0,0,0,(⟨0,[97],[],[],[120],0,0⟩:Mail),[]⟩:O_)) (by assumption) (by first|assumption|exact dd1 (by decide +kernel)|exact⟨by first|(simp;done)|omega,by first|(simp;done)|omega,by first|(simp;done)|((try dsimp only);omega),by first|(simp;done)|((try dsimp only);omega)⟩) (by first|assumption|omega|(dsimp only;omega)|decide +kernel)
 (try rw[<- hr39] at hA41)
 refine kB 14 [2] λB44=>?_;refine cV e41 R22_ (Er_ _ (⟨7,0,(⟨[],0,[]⟩:W_),(⟨[],0,0,[]⟩:U_),(⟨[],[],false,[],[],false⟩:Q_),[113],0,0,0,0,0,(⟨0,[],[],[],[],0,0⟩:Mail),[]⟩:O_) (hd:=by first|assumption|exact dd1 (by decide +kernel)|exact⟨by first|(simp;done)|omega,by first|(simp;done)|omega,by first|(simp;done)|((try dsimp only);omega),by first|(simp;done)|((try dsimp only);omega)⟩)) rfl λr3 hr45 e47 w46=>?_;have hA47:=Ru_ (s:=r2.1) (d:=(⟨7,0,(⟨[],0,[]⟩:W_),(⟨[],0,0,[]⟩:U_),(⟨[],[],false,[],[],false⟩:Q_),[113],0,0,0,0,0,(⟨0,[],[],[],[],0,0⟩:Mail),[]⟩:O_)) (by assumption) (by first|assumption|exact dd1 (by decide +kernel)|exact⟨by first|(simp;done)|omega,by first|(simp;done)|omega,by first|(simp;done)|((try dsimp only);omega),by first|(simp;done)|((try dsimp only);omega)⟩) (by first|assumption|omega|(dsimp only;omega)|decide +kernel)
 (try rw[<- hr45] at hA47)
 refine kB 13 [3,4] λB50=>?_;refine call Xw_ rfl rfl λw52=>?_;refine kA 1 ?_;refine callg rfl (λhc=>X7_) rfl trivial rfl rfl λ_=>?_;refine kC 2 ?_;refine callg rfl (λhc=>l22_Awake) rfl trivial rfl rfl λ_=>?_;refine kC 2 ?_;refine callg rfl (λhc=>X3_) rfl trivial rfl rfl λ_=>?_;refine kC 25 ?_;exact rt1 rfl rfl (Aj_ (λr:Bool=> .bool r) e47 (ple rfl))
theorem ag3:Ag prog 3 false:=λw=>by kernel_rfl
theorem ag49:Ag prog 49 true:=λw=>by kernel_rfl
theorem eqg120:prog.eqGuardType prog.depth 120=false:=by kernel_rfl
theorem eqg47:prog.eqGuardType prog.depth 47=false:=by kernel_rfl
theorem eqg50:prog.eqGuardType prog.depth 50=false:=by kernel_rfl
theorem veq120 (p q:Eh_):∀ (H:Hp) (vs us:List Value),Sims H (Eh_.pc p) vs->Sims H (Eh_.pc q) us->EqV prog 10000 120 (.agg vs.toArray) (.agg us.toArray) (decide (p=q)):=by
 intro H vs us hv hu;obtain⟨_,_,rfl,v0,v_0⟩:=hv.inv_cons;obtain⟨_,_,rfl,v1,v_1⟩:=v_0.inv_cons;obtain⟨_,_,rfl,v2,v_2⟩:=v_1.inv_cons
 cases v_2.inv_nil
 cases v0.inv_int.1;cases v1.inv_int.1;cases v2.inv_str.1
 obtain⟨_,_,rfl,u0,u_0⟩:=hu.inv_cons;obtain⟨_,_,rfl,u1,u_1⟩:=u_0.inv_cons;obtain⟨_,_,rfl,u2,u_2⟩:=u_1.inv_cons
 cases u_2.inv_nil
 cases u0.inv_int.1;cases u1.inv_int.1;cases u2.inv_str.1
 exact EqV.to' (I5_ underlying120 (by kernel_rfl) (H6_ (by decide) ag36 rfl rfl (C8_ underlying36) (H6_ (by decide) ag5 rfl rfl (C8_ underlying5) (H6_ (by decide) ag9 rfl rfl (Oh_ underlying9) I4_)))) (by obtain⟨a0,a1,a2⟩:=p;obtain⟨b0,b1,b2⟩:=q;rw[Bool.eq_iff_iff];simp)
theorem veq47 (p q:A16_u64):∀ (H:Hp) (vs us:List Value),Sims H (A16_u64.pc p) vs->Sims H (A16_u64.pc q) us->EqV prog 10000 47 (.agg vs.toArray) (.agg us.toArray) (decide (p=q)):=by
 intro H vs us hv hu;obtain⟨_,_,rfl,v0,v_0⟩:=hv.inv_cons;obtain⟨_,_,rfl,v1,v_1⟩:=v_0.inv_cons;obtain⟨_,_,rfl,v2,v_2⟩:=v_1.inv_cons;obtain⟨_,_,rfl,v3,v_3⟩:=v_2.inv_cons;obtain⟨_,_,rfl,v4,v_4⟩:=v_3.inv_cons;obtain⟨_,_,rfl,v5,v_5⟩:=v_4.inv_cons;obtain⟨_,_,rfl,v6,v_6⟩:=v_5.inv_cons;obtain⟨_,_,rfl,v7,v_7⟩:=v_6.inv_cons;obtain⟨_,_,rfl,v8,v_8⟩:=v_7.inv_cons;obtain⟨_,_,rfl,v9,v_9⟩:=v_8.inv_cons;obtain⟨_,_,rfl,v10,v_10⟩:=v_9.inv_cons;obtain⟨_,_,rfl,v11,v_11⟩:=v_10.inv_cons;obtain⟨_,_,rfl,v12,v_12⟩:=v_11.inv_cons;obtain⟨_,_,rfl,v13,v_13⟩:=v_12.inv_cons;obtain⟨_,_,rfl,v14,v_14⟩:=v_13.inv_cons;obtain⟨_,_,rfl,v15,v_15⟩:=v_14.inv_cons
 cases v_15.inv_nil
 cases v0.inv_int.1;cases v1.inv_int.1;cases v2.inv_int.1;cases v3.inv_int.1;cases v4.inv_int.1;cases v5.inv_int.1;cases v6.inv_int.1;cases v7.inv_int.1;cases v8.inv_int.1;cases v9.inv_int.1;cases v10.inv_int.1;cases v11.inv_int.1;cases v12.inv_int.1;cases v13.inv_int.1;cases v14.inv_int.1;cases v15.inv_int.1
 obtain⟨_,_,rfl,u0,u_0⟩:=hu.inv_cons;obtain⟨_,_,rfl,u1,u_1⟩:=u_0.inv_cons;obtain⟨_,_,rfl,u2,u_2⟩:=u_1.inv_cons;obtain⟨_,_,rfl,u3,u_3⟩:=u_2.inv_cons;obtain⟨_,_,rfl,u4,u_4⟩:=u_3.inv_cons;obtain⟨_,_,rfl,u5,u_5⟩:=u_4.inv_cons;obtain⟨_,_,rfl,u6,u_6⟩:=u_5.inv_cons;obtain⟨_,_,rfl,u7,u_7⟩:=u_6.inv_cons;obtain⟨_,_,rfl,u8,u_8⟩:=u_7.inv_cons;obtain⟨_,_,rfl,u9,u_9⟩:=u_8.inv_cons;obtain⟨_,_,rfl,u10,u_10⟩:=u_9.inv_cons;obtain⟨_,_,rfl,u11,u_11⟩:=u_10.inv_cons;obtain⟨_,_,rfl,u12,u_12⟩:=u_11.inv_cons;obtain⟨_,_,rfl,u13,u_13⟩:=u_12.inv_cons;obtain⟨_,_,rfl,u14,u_14⟩:=u_13.inv_cons;obtain⟨_,_,rfl,u15,u_15⟩:=u_14.inv_cons
 cases u_15.inv_nil
 cases u0.inv_int.1;cases u1.inv_int.1;cases u2.inv_int.1;cases u3.inv_int.1;cases u4.inv_int.1;cases u5.inv_int.1;cases u6.inv_int.1;cases u7.inv_int.1;cases u8.inv_int.1;cases u9.inv_int.1;cases u10.inv_int.1;cases u11.inv_int.1;cases u12.inv_int.1;cases u13.inv_int.1;cases u14.inv_int.1;cases u15.inv_int.1
 exact EqV.to' (eqv_arr [0,1,2,3,4,5,6,7,8,9,10,11,12,13,14,15] underlying47 underlying36 (by kernel_rfl:prog.cellsOf 36=1) rfl (N4_ ag36 rfl rfl (C8_ underlying36) (N4_ ag36 rfl rfl (C8_ underlying36) (N4_ ag36 rfl rfl (C8_ underlying36) (N4_ ag36 rfl rfl (C8_ underlying36) (N4_ ag36 rfl rfl (C8_ underlying36) (N4_ ag36 rfl rfl (C8_ underlying36) (N4_ ag36 rfl rfl (C8_ underlying36) (N4_ ag36 rfl rfl (C8_ underlying36) (N4_ ag36 rfl rfl (C8_ underlying36) (N4_ ag36 rfl rfl (C8_ underlying36) (N4_ ag36 rfl rfl (C8_ underlying36) (N4_ ag36 rfl rfl (C8_ underlying36) (N4_ ag36 rfl rfl (C8_ underlying36) (N4_ ag36 rfl rfl (C8_ underlying36) (N4_ ag36 rfl rfl (C8_ underlying36) (N4_ ag36 rfl rfl (C8_ underlying36) eqi_nil))))))))))))))))) (by obtain⟨a0,a1,a2,a3,a4,a5,a6,a7,a8,a9,a10,a11,a12,a13,a14,a15⟩:=p;obtain⟨b0,b1,b2,b3,b4,b5,b6,b7,b8,b9,b10,b11,b12,b13,b14,b15⟩:=q;rw[Bool.eq_iff_iff];simp)
theorem veq50 (p q:A8_SpentR):∀ (H:Hp) (vs us:List Value),Sims H (A8_SpentR.pc p) vs->Sims H (A8_SpentR.pc q) us->EqV prog 10000 50 (.agg vs.toArray) (.agg us.toArray) (decide (p=q)):=by
 intro H vs us hv hu;obtain⟨_,_,rfl,v0,v_0⟩:=hv.inv_cons;obtain⟨_,_,rfl,v1,v_1⟩:=v_0.inv_cons;obtain⟨_,_,rfl,v2,v_2⟩:=v_1.inv_cons;obtain⟨_,_,rfl,v3,v_3⟩:=v_2.inv_cons;obtain⟨_,_,rfl,v4,v_4⟩:=v_3.inv_cons;obtain⟨_,_,rfl,v5,v_5⟩:=v_4.inv_cons;obtain⟨_,_,rfl,v6,v_6⟩:=v_5.inv_cons;obtain⟨_,_,rfl,v7,v_7⟩:=v_6.inv_cons;obtain⟨_,_,rfl,v8,v_8⟩:=v_7.inv_cons;obtain⟨_,_,rfl,v9,v_9⟩:=v_8.inv_cons;obtain⟨_,_,rfl,v10,v_10⟩:=v_9.inv_cons;obtain⟨_,_,rfl,v11,v_11⟩:=v_10.inv_cons;obtain⟨_,_,rfl,v12,v_12⟩:=v_11.inv_cons;obtain⟨_,_,rfl,v13,v_13⟩:=v_12.inv_cons;obtain⟨_,_,rfl,v14,v_14⟩:=v_13.inv_cons;obtain⟨_,_,rfl,v15,v_15⟩:=v_14.inv_cons
 cases v_15.inv_nil
 cases v0.inv_int.1;cases v1.inv_int.1;cases v2.inv_int.1;cases v3.inv_int.1;cases v4.inv_int.1;cases v5.inv_int.1;cases v6.inv_int.1;cases v7.inv_int.1;cases v8.inv_int.1;cases v9.inv_int.1;cases v10.inv_int.1;cases v11.inv_int.1;cases v12.inv_int.1;cases v13.inv_int.1;cases v14.inv_int.1;cases v15.inv_int.1
 obtain⟨_,_,rfl,u0,u_0⟩:=hu.inv_cons;obtain⟨_,_,rfl,u1,u_1⟩:=u_0.inv_cons;obtain⟨_,_,rfl,u2,u_2⟩:=u_1.inv_cons;obtain⟨_,_,rfl,u3,u_3⟩:=u_2.inv_cons;obtain⟨_,_,rfl,u4,u_4⟩:=u_3.inv_cons;obtain⟨_,_,rfl,u5,u_5⟩:=u_4.inv_cons;obtain⟨_,_,rfl,u6,u_6⟩:=u_5.inv_cons;obtain⟨_,_,rfl,u7,u_7⟩:=u_6.inv_cons;obtain⟨_,_,rfl,u8,u_8⟩:=u_7.inv_cons;obtain⟨_,_,rfl,u9,u_9⟩:=u_8.inv_cons;obtain⟨_,_,rfl,u10,u_10⟩:=u_9.inv_cons;obtain⟨_,_,rfl,u11,u_11⟩:=u_10.inv_cons;obtain⟨_,_,rfl,u12,u_12⟩:=u_11.inv_cons;obtain⟨_,_,rfl,u13,u_13⟩:=u_12.inv_cons;obtain⟨_,_,rfl,u14,u_14⟩:=u_13.inv_cons;obtain⟨_,_,rfl,u15,u_15⟩:=u_14.inv_cons
 cases u_15.inv_nil
 cases u0.inv_int.1;cases u1.inv_int.1;cases u2.inv_int.1;cases u3.inv_int.1;cases u4.inv_int.1;cases u5.inv_int.1;cases u6.inv_int.1;cases u7.inv_int.1;cases u8.inv_int.1;cases u9.inv_int.1;cases u10.inv_int.1;cases u11.inv_int.1;cases u12.inv_int.1;cases u13.inv_int.1;cases u14.inv_int.1;cases u15.inv_int.1
 exact EqV.to' (eqv_arr [0,1,2,3,4,5,6,7] underlying50 underlying49 (by kernel_rfl:prog.cellsOf 49=2) rfl (Xc_ ag49 sz49 rfl rfl (I5_ underlying49 (by kernel_rfl) (H6_ (by decide) ag36 rfl rfl (C8_ underlying36) (H6_ (by decide) ag3 rfl rfl (C8_ underlying3) I4_))) (Xc_ ag49 sz49 rfl rfl (I5_ underlying49 (by kernel_rfl) (H6_ (by decide) ag36 rfl rfl (C8_ underlying36) (H6_ (by decide) ag3 rfl rfl (C8_ underlying3) I4_))) (Xc_ ag49 sz49 rfl rfl (I5_ underlying49 (by kernel_rfl) (H6_ (by decide) ag36 rfl rfl (C8_ underlying36) (H6_ (by decide) ag3 rfl rfl (C8_ underlying3) I4_))) (Xc_ ag49 sz49 rfl rfl (I5_ underlying49 (by kernel_rfl) (H6_ (by decide) ag36 rfl rfl (C8_ underlying36) (H6_ (by decide) ag3 rfl rfl (C8_ underlying3) I4_))) (Xc_ ag49 sz49 rfl rfl (I5_ underlying49 (by kernel_rfl) (H6_ (by decide) ag36 rfl rfl (C8_ underlying36) (H6_ (by decide) ag3 rfl rfl (C8_ underlying3) I4_))) (Xc_ ag49 sz49 rfl rfl (I5_ underlying49 (by kernel_rfl) (H6_ (by decide) ag36 rfl rfl (C8_ underlying36) (H6_ (by decide) ag3 rfl rfl (C8_ underlying3) I4_))) (Xc_ ag49 sz49 rfl rfl (I5_ underlying49 (by kernel_rfl) (H6_ (by decide) ag36 rfl rfl (C8_ underlying36) (H6_ (by decide) ag3 rfl rfl (C8_ underlying3) I4_))) (Xc_ ag49 sz49 rfl rfl (I5_ underlying49 (by kernel_rfl) (H6_ (by decide) ag36 rfl rfl (C8_ underlying36) (H6_ (by decide) ag3 rfl rfl (C8_ underlying3) I4_))) eqi_nil))))))))) (by obtain⟨⟨a0_0,a0_1⟩,⟨a1_0,a1_1⟩,⟨a2_0,a2_1⟩,⟨a3_0,a3_1⟩,⟨a4_0,a4_1⟩,⟨a5_0,a5_1⟩,⟨a6_0,a6_1⟩,⟨a7_0,a7_1⟩⟩:=p;obtain⟨⟨b0_0,b0_1⟩,⟨b1_0,b1_1⟩,⟨b2_0,b2_1⟩,⟨b3_0,b3_1⟩,⟨b4_0,b4_1⟩,⟨b5_0,b5_1⟩,⟨b6_0,b6_1⟩,⟨b7_0,b7_1⟩⟩:=q;rw[Bool.eq_iff_iff];simp)
theorem eq_Shop (a:List W_) (b:List W_):Fn prog gb 134 [.sl W_.pc a, .sl W_.pc b] (.bool (decide (a=b))):=by
 refine kG func134 ntmps134 λw N H hG=>?_;have a_l:a.length<=140737488355328:=w.1.1;have b_l:b.length<=140737488355328:=w.2.1.1;refine kA 15 ?_;refine cnd rfl (λh1=>?_) (λh1=>?_)
 . have h2:=Ek_ h1;have p3:=df h2;refine kA 7 ?_;refine rt1 rfl rfl (ple ?_);exact congrArg PV.bool (Rx_ (by assumption)).symm
 have h4:=Di_ h1;have p5:=dt h4;refine kA 11 ?_;refine loop (ι:=Nat) [0,1,6,7,8,9,10,11,12] [] (λk=>[(13, .int .i64 (k:Int))]) (λk=>[]) (λk=>k<=a.length /\ decide (a=b) = decide (a.drop k=b.drop k)) (λk=>a.length-k) 0 ⟨rfl,trivial⟩ trivial ?_ ?_
 . exact⟨Nat.zero_le _,rfl⟩
 rintro k hp6;obtain⟨hk1,hk2⟩:=hp6;refine kA 6 ?_;refine cnd rfl (λh7=>?_) (λh7=>?_)
 . have p8:=dt h7;refine kA 11 ?_;refine aN [0,1,2,3,4,5] 9 mixd ?_;refine kE [0,1] 7 ?_;obtain⟨c9,hc10⟩:=getE (xs:=a) (m:=k) (by omega);have c9_w:=W_.pwf (w.1.2 c9 (List.mem_of_getElem? hc10));refine vq 2 (qidx F_ k rfl rfl rfl hc10 rfl rfl rfl rfl) rfl (by kernel_rfl) rfl λw11=>?_;refine kE [3,4,5] 3 ?_;obtain⟨c12,hc13⟩:=getE (xs:=b) (m:=k) (by omega);have c12_w:=W_.pwf (w.2.1.2 c12 (List.mem_of_getElem? hc13));refine vq 6 (qidx F_ k rfl rfl rfl hc13 rfl rfl rfl rfl) rfl (by kernel_rfl) rfl λw14=>?_;refine kE [7] 1 ?_;refine vq 8 (sane rfl rfl eqg57 (veq57 c9 c12)) rfl (by kernel_rfl) rfl λw15=>?_;refine vD ?_;refine kA 1 ?_;refine cnd rfl (λh16=>?_) (λh16=>?_)
   . have h17:=Ek_ h16;have p18:=df h17;refine kA 11 ?_;refine rt1 rfl rfl (ple ?_);exact congrArg PV.bool (O3_ hk2 (Eg_ hc10) (Eg_ hc13) (by assumption)).symm
   have h19:=Di_ h16;have p20:=dt h19;refine kC 7 ?_;refine next (k+1) rfl rfl ⟨rfl,trivial⟩ trivial ?_ ?_
   . omega
   exact⟨by omega,O4_ hk2 (Eg_ hc10) (Eg_ hc13) (by assumption)⟩
 have p21:=df h7;refine kA 11 ?_;refine rt1 rfl rfl (ple ?_);exact congrArg PV.bool (Rw_ hk2 (by omega) (by omega)).symm
theorem eq_Note (a:List Eh_) (b:List Eh_):Fn prog gb 141 [.sl Eh_.pc a, .sl Eh_.pc b] (.bool (decide (a=b))):=by
 refine kG func141 ntmps141 λw N H hG=>?_;have a_l:a.length<=140737488355328:=w.1.1;have b_l:b.length<=140737488355328:=w.2.1.1;refine kA 15 ?_;refine cnd rfl (λh1=>?_) (λh1=>?_)
 . have h2:=Ek_ h1;have p3:=df h2;refine kA 7 ?_;refine rt1 rfl rfl (ple ?_);exact congrArg PV.bool (Rx_ (by assumption)).symm
 have h4:=Di_ h1;have p5:=dt h4;refine kA 11 ?_;refine loop (ι:=Nat) [0,1,6,7,8,9,10,11,12] [] (λk=>[(13, .int .i64 (k:Int))]) (λk=>[]) (λk=>k<=a.length /\ decide (a=b) = decide (a.drop k=b.drop k)) (λk=>a.length-k) 0 ⟨rfl,trivial⟩ trivial ?_ ?_
 . exact⟨Nat.zero_le _,rfl⟩
 rintro k hp6;obtain⟨hk1,hk2⟩:=hp6;refine kA 6 ?_;refine cnd rfl (λh7=>?_) (λh7=>?_)
 . have p8:=dt h7;refine kA 11 ?_;refine aN [0,1,2,3,4,5] 9 mixd ?_;refine kE [0,1] 7 ?_;obtain⟨c9,hc10⟩:=getE (xs:=a) (m:=k) (by omega);refine vq 2 (qidx F_ k rfl rfl rfl hc10 rfl rfl rfl rfl) rfl (by kernel_rfl) rfl λw11=>?_;refine kE [3,4,5] 3 ?_;obtain⟨c12,hc13⟩:=getE (xs:=b) (m:=k) (by omega);refine vq 6 (qidx F_ k rfl rfl rfl hc13 rfl rfl rfl rfl) rfl (by kernel_rfl) rfl λw14=>?_;refine kE [7] 1 ?_;refine vq 8 (sane rfl rfl eqg120 (veq120 c9 c12)) rfl (by kernel_rfl) rfl λw15=>?_;refine vD ?_;refine kA 1 ?_;refine cnd rfl (λh16=>?_) (λh16=>?_)
   . have h17:=Ek_ h16;have p18:=df h17;refine kA 11 ?_;refine rt1 rfl rfl (ple ?_);exact congrArg PV.bool (O3_ hk2 (Eg_ hc10) (Eg_ hc13) (by assumption)).symm
   have h19:=Di_ h16;have p20:=dt h19;refine kC 7 ?_;refine next (k+1) rfl rfl ⟨rfl,trivial⟩ trivial ?_ ?_
   . omega
   exact⟨by omega,O4_ hk2 (Eg_ hc10) (Eg_ hc13) (by assumption)⟩
 have p21:=df h7;refine kA 11 ?_;refine rt1 rfl rfl (ple ?_);exact congrArg PV.bool (Rw_ hk2 (by omega) (by omega)).symm
theorem Wd_ (x:K_) (y:K_):Fn prog gb 209 [.agg (K_.pc x), .agg (K_.pc y)] (.bool (Lu_ x y)):=by
 refine kG func209 ntmps209 λw N H hG=>?_;have e0:=Lu_.eq_1 x y;refine kB 13 [0,1] λB2=>?_;refine call (Tc_ _ _) rfl rfl λw4=>?_;refine kC 18 ?_;exact rt1 rfl rfl (Aj_ (λr:Bool=> .bool r) e0 (ple rfl))
theorem Zv_ (s1:List Q_) (s2:List Q_):Fn prog gb 135 [.sl Q_.pc s1, .sl Q_.pc s2, .fn 136 [] []] (.bool (L5_ s1 s2)):=by
 refine kG func135 ntmps135 λw N H hG=>?_;have s1_l:s1.length<=140737488355328:=w.1.1;have s2_l:s2.length<=140737488355328:=w.2.1.1;have e0:=L5_.eq_1 s1 s2;generalize L5_ s1 s2=z at e0 ⊢;refine kA 15 ?_;refine cN e0 (λp3 e4=>?_) (λp6 e7=>?_)
 . refine kA 7 ?_;subst e4;exact qr1
 refine kA 11 ?_;refine loop (ι:=Nat) [1,2,15,16] [] (λk=>[(17, .int .i64 (k:Int))]) (λk=>[]) (λk=>k<=s1.length/\z=Gx_ s2 (s1.drop k) k) (λk=>s1.length-k) 0 ⟨rfl,trivial⟩ trivial ?_ ?_
 . exact⟨Nat.zero_le _,e7⟩
 rintro k ⟨hp8_1,hp8_2⟩;refine kA 6 ?_;refine cn rfl (λp10=>?_) λp28=>?_
 . have e11:=C6_ (f:=λzz=>Gx_ s2 zz k) hp8_2 (Gb_ (by omega)) (Gx_.eq_2 _ _ _ _);have hc12:=getG (xs:=s1) (k:=k) (by omega);refine kA 7 ?_;refine kI k hc12 λw13=>?_;have hc16:=getG (xs:=s2) (k:=k) (by omega);refine kB 10 [0] λB15=>?_;refine kI k hc16 λw17=>?_;refine kB 10 [1] λB19=>?_;refine call (W1_ _ _) rfl rfl λw20=>?_;refine kA 3 ?_;refine cN e11 (λp23 e24=>?_) (λp26 e27=>?_)
   . refine kA 11 ?_;subst e24;exact qr1
   refine kC 7 ?_;refine next (k+1) rfl rfl ⟨rfl,trivial⟩ trivial ?_ ?_
   . (try simp only[]);omega
   exact⟨by (try simp only[]);omega,e27⟩
 have e29:=C6_ (f:=λzz=>Gx_ s2 zz k) hp8_2 (Gp_ (by omega)) (Gx_.eq_1 _ _);refine kA 11 ?_;subst e29;exact qr1
theorem Zw_ (s1:List K_) (s2:List K_):Fn prog gb 208 [.sl K_.pc s1, .sl K_.pc s2, .fn 209 [] []] (.bool (Nq_ s1 s2)):=by
 refine kG func208 ntmps208 λw N H hG=>?_;have s1_l:s1.length<=140737488355328:=w.1.1;have s2_l:s2.length<=140737488355328:=w.2.1.1;have e0:=Nq_.eq_1 s1 s2;generalize Nq_ s1 s2=z at e0 ⊢;refine kA 15 ?_;refine cN e0 (λp3 e4=>?_) (λp6 e7=>?_)
 . refine kA 7 ?_;subst e4;exact qr1
 refine kA 11 ?_;refine loop (ι:=Nat) [1,2,15,16] [] (λk=>[(17, .int .i64 (k:Int))]) (λk=>[]) (λk=>k<=s1.length/\z=Gy_ s2 (s1.drop k) k) (λk=>s1.length-k) 0 ⟨rfl,trivial⟩ trivial ?_ ?_
 . exact⟨Nat.zero_le _,e7⟩
 rintro k ⟨hp8_1,hp8_2⟩;refine kA 6 ?_;refine cn rfl (λp10=>?_) λp26=>?_
 . have e11:=C6_ (f:=λzz=>Gy_ s2 zz k) hp8_2 (Gb_ (by omega)) (Gy_.eq_2 _ _ _ _);have hc12:=getG (xs:=s1) (k:=k) (by omega);refine kA 7 ?_;refine kI k hc12 λw13=>?_;have hc16:=getG (xs:=s2) (k:=k) (by omega);refine kB 10 [0] λB15=>?_;refine kI k hc16 λw17=>?_;refine kB 10 [1] λB19=>?_;refine call (Wd_ _ _) rfl rfl λw20=>?_;refine kA 3 ?_;refine cE e11 (λh21 e23=>?_) (λh21 e25=>?_)
   . have h22:=Ek_ h21;refine kA 11 ?_;subst e23;exact qr1
   have h24:=Di_ h21;refine kC 7 ?_;refine next (k+1) rfl rfl ⟨rfl,trivial⟩ trivial ?_ ?_
   . (try simp only[]);omega
   exact⟨by (try simp only[]);omega,e25⟩
 have e27:=C6_ (f:=λzz=>Gy_ s2 zz k) hp8_2 (Gp_ (by omega)) (Gy_.eq_1 _ _);refine kA 11 ?_;subst e27;exact qr1
theorem Zx_ (s1:List Mail) (s2:List Mail):Fn prog gb 210 [.sl Mail.pc s1, .sl Mail.pc s2, .fn 163 [] []] (.bool (Nr_ s1 s2)):=by
 refine kG func210 ntmps210 λw N H hG=>?_;have s1_l:s1.length<=140737488355328:=w.1.1;have s2_l:s2.length<=140737488355328:=w.2.1.1;have e0:=Nr_.eq_1 s1 s2;generalize Nr_ s1 s2=z at e0 ⊢;refine kA 15 ?_;refine cN e0 (λp3 e4=>?_) (λp6 e7=>?_)
 . refine kA 7 ?_;subst e4;exact qr1
 refine kA 11 ?_;refine loop (ι:=Nat) [1,2,15,16] [] (λk=>[(17, .int .i64 (k:Int))]) (λk=>[]) (λk=>k<=s1.length/\z=Gz_ s2 (s1.drop k) k) (λk=>s1.length-k) 0 ⟨rfl,trivial⟩ trivial ?_ ?_
 . exact⟨Nat.zero_le _,e7⟩
 rintro k ⟨hp8_1,hp8_2⟩;refine kA 6 ?_;refine cn rfl (λp10=>?_) λp28=>?_
 . have e11:=C6_ (f:=λzz=>Gz_ s2 zz k) hp8_2 (Gb_ (by omega)) (Gz_.eq_2 _ _ _ _);have hc12:=getG (xs:=s1) (k:=k) (by omega);refine kA 7 ?_;refine kI k hc12 λw13=>?_;have hc16:=getG (xs:=s2) (k:=k) (by omega);refine kB 10 [0] λB15=>?_;refine kI k hc16 λw17=>?_;refine kB 10 [1] λB19=>?_;refine call (Tc_ _ _) rfl rfl λw20=>?_;refine kA 3 ?_;refine cN e11 (λp23 e24=>?_) (λp26 e27=>?_)
   . refine kA 11 ?_;subst e24;exact qr1
   refine kC 7 ?_;refine next (k+1) rfl rfl ⟨rfl,trivial⟩ trivial ?_ ?_
   . (try simp only[]);omega
   exact⟨by (try simp only[]);omega,e27⟩
 have e29:=C6_ (f:=λzz=>Gz_ s2 zz k) hp8_2 (Gp_ (by omega)) (Gz_.eq_1 _ _);refine kA 11 ?_;subst e29;exact qr1
theorem Yi_ (a:Ac_) (b:Ac_):Fn prog gb 139 [.agg (Ac_.pc a), .agg (Ac_.pc b)] (.bool (Pi_ a b)):=by
 refine kG func139 ntmps139 λw N H hG=>?_;have e0:=Pi_.eq_1 a b;refine kB 13 [0,1] λB2=>?_;refine call (Zw_ _ _) rfl rfl λw4=>?_;refine kA 4 ?_;exact rt1 rfl rfl (Aj_ (λr:Bool=> .bool r) e0 (ple rfl))
theorem Qu_ (a:Bc_) (b:Bc_):Fn prog gb 140 [.agg (Bc_.pc a), .agg (Bc_.pc b)] (.bool (Kq_ a b)):=by
 refine kG func140 ntmps140 λw N H hG=>?_;have e0:=Kq_.eq_1 a b;refine kD 19 [0,1] λB2=>?_;refine callg rfl (λhc=>(Zx_ _ _)) rfl ⟨(λhc=>hc),(λhc=>hc),trivial⟩ rfl rfl λ_=>?_;refine kC 5 ?_;exact rt1 rfl rfl (Aj_ (λr:Bool=> .bool r) e0 (ple rfl))
theorem Wk_ (a:B4_) (b:B4_):Fn prog gb 66 [.agg (B4_.pc a), .agg (B4_.pc b)] (.bool (Nx_ a b)):=by
 refine kG func66 ntmps66 λw N H hG=>?_;have e0:=Nx_.eq_1 a b;refine kD 19 [0,1] λB2=>?_;refine callg rfl (λhc=>(eq_Note _ _)) rfl ⟨(λhc=>hc),(λhc=>hc),trivial⟩ rfl rfl λ_=>?_;refine kC 5 ?_;exact rt1 rfl rfl (Aj_ (λr:Bool=> .bool r) e0 (ple rfl))
theorem Pw_ (a:Ap_) (b:Ap_):Fn prog gb 64 [.agg (Ap_.pc a), .agg (Ap_.pc b)] (.bool (H0_ a b)):=by
 refine kG func64 ntmps64 λw N H hG=>?_;have e0:=H0_.eq_1 a b;refine kB 13 [0,1] λB2=>?_;refine call (eq_Shop _ _) rfl rfl λw4=>?_;refine kC 5 ?_;refine callg rfl (λhc=>(Zv_ _ _)) rfl ⟨(λhc=>hc),(λhc=>hc),trivial⟩ rfl rfl λ_=>?_;refine kC 5 ?_;exact rt1 rfl rfl (Aj_ (λr:Bool=> .bool r) e0 (ple rfl))
theorem T4_ (x:Fd_) (y:Fd_):Fn prog gb 138 [.agg (Fd_.pc x), .agg (Fd_.pc y)] (.bool (Ku_ x y)):=by
 refine kG func138 ntmps138 λw N H hG=>?_;have e0:=Ku_.eq_1 x y;refine kB 13 [0,1] λB2=>?_;refine q1 (saeq rfl rfl eqg59 (veq59 x.q y.q)) rfl λw4=>?_;refine kC 5 ?_;refine callg rfl (λhc=>(Yi_ _ _)) rfl ⟨(λhc=>hc),(λhc=>hc),trivial⟩ rfl rfl λ_=>?_;refine kC 5 ?_;exact rt1 rfl rfl (Aj_ (λr:Bool=> .bool r) e0 (ple rfl))
theorem eqf_Row_ok (s1:List Fd_) (s2:List Fd_):Fn prog gb 137 [.sl Fd_.pc s1, .sl Fd_.pc s2, .fn 138 [] []] (.bool (P4_ s1 s2)):=by
 refine kG func137 ntmps137 λw N H hG=>?_;have s1_l:s1.length<=140737488355328:=w.1.1;have s2_l:s2.length<=140737488355328:=w.2.1.1;have e0:=P4_.eq_1 s1 s2;generalize P4_ s1 s2=z at e0 ⊢;refine kA 15 ?_;refine cN e0 (λp3 e4=>?_) (λp6 e7=>?_)
 . refine kA 7 ?_;subst e4;exact qr1
 refine kA 11 ?_;refine loop (ι:=Nat) [1,2,15,16] [] (λk=>[(17, .int .i64 (k:Int))]) (λk=>[]) (λk=>k<=s1.length/\z=Ht_ s2 (s1.drop k) k) (λk=>s1.length-k) 0 ⟨rfl,trivial⟩ trivial ?_ ?_
 . exact⟨Nat.zero_le _,e7⟩
 rintro k ⟨hp8_1,hp8_2⟩;refine kA 6 ?_;refine cn rfl (λp10=>?_) λp26=>?_
 . have e11:=C6_ (f:=λzz=>Ht_ s2 zz k) hp8_2 (Gb_ (by omega)) (Ht_.eq_2 _ _ _ _);have hc12:=getG (xs:=s1) (k:=k) (by omega);refine kA 7 ?_;refine kI k hc12 λw13=>?_;have hc16:=getG (xs:=s2) (k:=k) (by omega);refine kB 10 [0] λB15=>?_;refine kI k hc16 λw17=>?_;refine kB 10 [1] λB19=>?_;refine call (T4_ _ _) rfl rfl λw20=>?_;refine kA 3 ?_;refine cE e11 (λh21 e23=>?_) (λh21 e25=>?_)
   . have h22:=Ek_ h21;refine kA 11 ?_;subst e23;exact qr1
   have h24:=Di_ h21;refine kC 7 ?_;refine next (k+1) rfl rfl ⟨rfl,trivial⟩ trivial ?_ ?_
   . (try simp only[]);omega
   exact⟨by (try simp only[]);omega,e25⟩
 have e27:=C6_ (f:=λzz=>Ht_ s2 zz k) hp8_2 (Gp_ (by omega)) (Ht_.eq_1 _ _);refine kA 11 ?_;subst e27;exact qr1
theorem Wu_ (a:D_) (b:D_):Fn prog gb 65 [.agg (D_.pc a), .agg (D_.pc b)] (.bool (Ke_ a b)):=by
 refine kG func65 ntmps65 λw N H hG=>?_;have e0:=Ke_.eq_1 a b;generalize Ke_ a b=z at e0 ⊢;refine kD 27 [0,1] λB2=>?_;refine callg rfl (λhc=>(eqf_Row_ok _ _)) rfl ⟨(λhc=>hc),(λhc=>hc),trivial⟩ rfl rfl λ_=>?_;refine kC 4 ?_;refine cE e0 (λh4 e5=>?_) (λh4 e15=>?_)
 . refine kA 7 ?_;subst e5;exact qr1
 have h6:=orl h4;have h7:=orl h6;have h8:=Di_ h7;have p9:=dt h8;have h10:=orr h6;have h11:=Di_ h10;have p12:=dt h11;have h13:=orr h4;have h14:=Di_ h13;refine kA 9 ?_;refine loop (ι:=Nat×Nat) [2,3] [0,1] (λ⟨f,v⟩=>[(26, .int .i64 (v:Int))]) (λ⟨f,v⟩=>[]) (λ⟨f,v⟩=>16-v<f/\z=H1_ a b f v) (λ⟨f,v⟩=>f) ⟨(16-0+1),0⟩ ⟨rfl,trivial⟩ trivial ?_ ?_
 . exact⟨Nat.lt_succ_self _,e15⟩
 rintro⟨f,v⟩ ⟨hp16_1,hp16_2⟩;obtain⟨f1,rfl⟩:∃ q,f=q+1:=⟨f-1,by omega⟩;have e_f1:=hp16_2.trans (H1_.eq_2 _ _ _ _);refine kA 6 ?_;refine cD e_f1 (λp18 e19=>?_) (λp34 e35=>?_)
 . refine kA 11 ?_;refine Hu_ (ι:=Unit) [2,3,26] [0,1] (λ_=>[(38, .bool (!(Kq_ (A16.get a.rises v) (A16.get b.rises v))))]) (λ_=>[]) (λ_=>PV.wf (.bool (Kq_ (A16.get a.rises v) (A16.get b.rises v)))) ?_ ?_
   . refine aN [2,3,4,5,6,7,8,9] 10 mixd ?_;refine kE [0,1] 8 ?_;refine vq 2 (qaia v rfl rfl underlying41 sz40 rfl (by omega)) rfl (by kernel_rfl) rfl λw20=>?_;refine kE [4,5] 5 ?_;refine vq 6 (qaia v rfl rfl underlying41 sz40 rfl (by omega)) rfl (by kernel_rfl) rfl λw21=>?_;refine veL 3 [7] (by kernel_rfl) ⟨⟨_,rfl,?_⟩,⟨_,rfl,?_⟩,trivial⟩
     . refine ej rfl (Na_ (sz:=2) (len:=16) (λq=>[.int .u64 ((A16.get a.rises q).total), .sl Mail.pc ((A16.get a.rises q).kept)]) v 3 2 0 F_ rfl rfl rfl rfl rfl rfl rfl (by omega) (bw16 rfl rfl rfl rfl rfl rfl rfl rfl rfl rfl rfl rfl rfl rfl rfl rfl) (bw16 rfl rfl rfl rfl rfl rfl rfl rfl rfl rfl rfl rfl rfl rfl rfl rfl) rfl λw22=>?_);refine vE 7 rfl (Na_ (sz:=2) (len:=16) (λq=>[.int .u64 ((A16.get b.rises q).total), .sl Mail.pc ((A16.get b.rises q).kept)]) v 3 2 0 F_ rfl rfl rfl rfl rfl rfl rfl (by omega) (bw16 rfl rfl rfl rfl rfl rfl rfl rfl rfl rfl rfl rfl rfl rfl rfl rfl) (bw16 rfl rfl rfl rfl rfl rfl rfl rfl rfl rfl rfl rfl rfl rfl rfl rfl) rfl λw23=>?_);refine vC 8 rfl (Qu_ (A16.get a.rises v) (A16.get b.rises v)) rfl λw24=>?_;refine kE [9] 0 ?_;refine vD ?_;refine nX () ?_ ⟨rfl,trivial⟩ trivial;exact w24
     refine ej rfl (Na_ (sz:=2) (len:=16) (λq=>[.int .u64 ((A16.get b.rises q).total), .sl Mail.pc ((A16.get b.rises q).kept)]) v 3 2 0 F_ rfl rfl rfl rfl rfl rfl rfl (by omega) (bw16 rfl rfl rfl rfl rfl rfl rfl rfl rfl rfl rfl rfl rfl rfl rfl rfl) (bw16 rfl rfl rfl rfl rfl rfl rfl rfl rfl rfl rfl rfl rfl rfl rfl rfl) rfl λw25=>?_);refine vE 3 rfl (Na_ (sz:=2) (len:=16) (λq=>[.int .u64 ((A16.get a.rises q).total), .sl Mail.pc ((A16.get a.rises q).kept)]) v 3 2 0 F_ rfl rfl rfl rfl rfl rfl rfl (by omega) (bw16 rfl rfl rfl rfl rfl rfl rfl rfl rfl rfl rfl rfl rfl rfl rfl rfl) (bw16 rfl rfl rfl rfl rfl rfl rfl rfl rfl rfl rfl rfl rfl rfl rfl rfl) rfl λw26=>?_);refine vC 8 rfl (Qu_ (A16.get a.rises v) (A16.get b.rises v)) rfl λw27=>?_;refine kE [9] 0 ?_;refine vD ?_;refine nX () ?_ ⟨rfl,trivial⟩ trivial;exact w27
   rintro _ w28;refine kA 1 ?_;refine cE e19 (λh29 e31=>?_) (λh29 e33=>?_)
   . have h30:=Ek_ h29;refine kA 11 ?_;subst e31;exact qr1
   have h32:=Di_ h29;refine kC 7 ?_;refine next ⟨f1,(v+1)⟩ rfl rfl ⟨rfl,trivial⟩ trivial ?_ ?_
   . (try simp only[]);omega
   exact⟨by (try simp only[]);omega,e33⟩
 refine kA 11 ?_;subst e35;exact qr1
theorem Wv_ (a:Aa_) (b:Aa_):Fn prog gb 17 [.agg (Aa_.pc a), .agg (Aa_.pc b)] (.bool (L1_ a b)):=by
 refine kG func17 ntmps17 λw N H hG=>?_;have e0:=L1_.eq_1 a b;refine kB 13 [0,1] λB2=>?_;refine call (Pw_ _ _) rfl rfl λw4=>?_;refine kC 5 ?_;refine callg rfl (λhc=>(Wu_ _ _)) rfl ⟨(λhc=>hc),(λhc=>hc),trivial⟩ rfl rfl λ_=>?_;refine kC 6 ?_;refine callg rfl (λhc=>(Wk_ _ _)) rfl ⟨(λhc=>hc),(λhc=>hc),trivial⟩ rfl rfl λ_=>?_;refine kC 6 ?_;refine q1g [26,28] rfl (λhc=>saeq rfl rfl eqg47 (veq47 a.seen b.seen)) ⟨(λhc=>hc),(λhc=>hc),trivial⟩ rfl rfl rfl λ_=>?_;refine kC 6 ?_;refine q1g [33,35] rfl (λhc=>saeq rfl rfl eqg50 (veq50 a.spent b.spent)) ⟨(λhc=>hc),(λhc=>hc),trivial⟩ rfl rfl rfl λ_=>?_;refine kC 5 ?_;exact rt1 rfl rfl (Aj_ (λr:Bool=> .bool r) e0 (ple rfl))
theorem clone_Shop (s:List W_) (hl:s.length<=100000000:=by first|omega|(simp;done)|(simp;omega)):Fn prog gb 79 [.sl W_.pc s] (.sl W_.pc s):=by
 refine kG func79 ntmps79 λw N H hG=>?_;refine kA 9 ?_;refine ef (lnil F_ rfl rfl rfl rfl rfl λb1 hb2=>?_);refine kA 2 ?_;refine cnd rfl (λh3=>?_) (λh3=>?_)
 . refine kA 7 ?_;refine rt1 rfl rfl ?_;refine Jf_ ?_;exact hb2 (by assumption)
 refine kA 4 ?_;refine ef (bsl 0 W_.pc [] F_ rfl rfl rfl rfl rfl (λ_=>rfl) rfl (by decide) (by decide) rfl λu4=>?_);refine kA 1 ?_;refine ef (app F_ s rfl rfl rfl rfl rfl rfl rfl rfl rfl (src_l rfl (λ_=>rfl)) (by first|omega|(simp;omega)) rfl λu5=>?_);refine kA 3 ?_;refine givec 0 rfl ?_;refine kA 1 ?_;refine rt1 rfl rfl (ple ?_)
 simp
theorem On_ (b:Ap_) (hb:b.Ba_.length<=1000:=by omega):Fn prog gb 20 [.agg (Ap_.pc b)] (.sl W_.pc (Fo_ b)):=by
 refine kG func20 ntmps20 λw N H hG=>?_;have e0:=Fo_.eq_1 b;refine kB 10 [0] λB2=>?_;refine call (clone_Shop _) rfl rfl λw3=>?_;refine kA 4 ?_;exact rt1 rfl rfl (Aj_ (λr:(List W_)=> .sl W_.pc r) e0 (ple rfl))
theorem Om_ (b:Ap_) (hb:b.binds.length<=1000/\∀ y∈b.binds,y.want.length<=1000:=by first|assumption|exact bk_want hb.1 hb.2):Fn prog gb 21 [.agg (Ap_.pc b)] (.sl Q_.pc (D8_ b)):=by
 refine kG func21 ntmps21 λw N H hG=>?_;obtain⟨hb1,hb2⟩:=id hb;have e0:=D8_.eq_1 b;refine kB 21 [0] λB2=>?_;refine sw_own (t:=3) (k:=6) (e:=62) 1 Q_.pc rfl rfl ?_;refine loop (ι:=Nat×(List Q_)×Value) [2,7,8] [0] (λ⟨k,out,u_out⟩=>[(9, .int .i64 (k:Int)),(3, .osl 1)]) (λ⟨k,out,u_out⟩=>[(1, .arr u_out 6 62 Q_.pc out)]) (λ⟨k,out,u_out⟩=>k<=b.binds.length/\D8_ b=C1_ (b.binds.drop k) out/\out.length<=k) (λ⟨k,out,u_out⟩=>b.binds.length-k) ⟨0,[],(.slice none 0 0)⟩ ⟨rfl,rfl,trivial⟩ ⟨rfl,trivial⟩ ?_ ?_
 . exact⟨Nat.zero_le _,e0,(by first|omega|(simp;done)|(simp;omega))⟩
 rintro⟨k,out,u_out⟩ ⟨hp3_1,hp3_2,hp3_3⟩;refine kA 6 ?_;refine cn rfl (λp5=>?_) λp14=>?_
 . have e6:=C6_ (f:=λzz=>C1_ zz out) hp3_2 (Gb_ (by omega)) (C1_.eq_2 _ _ _);have hc7:=getG (xs:=b.binds) (k:=k) (by omega);have hz_hc7:=hb2 (gt b.binds k) (List.mem_of_getElem? hc7);refine kA 6 ?_;refine kI k hc7 λw8=>?_;refine kB 8 [2] λB10=>?_;refine call (T8_ _) rfl rfl λw11=>?_;refine ef (bsl 3 Q_.pc [(gt b.binds k)] F_ rfl rfl rfl rfl rfl (λ_=>rfl) rfl (by decide) (by decide) rfl λu12=>?_);refine ef (app F_ [(gt b.binds k)] rfl rfl rfl rfl rfl rfl rfl rfl rfl (src_o rfl rfl) (by first|omega|(simp;omega)) rfl λu13=>?_);refine kC 8 ?_;refine next ⟨(k+1),(out++[(gt b.binds k)]),(u13)⟩ rfl rfl ⟨rfl,rfl,trivial⟩ ⟨rfl,trivial⟩ ?_ ?_
   . (try simp only[]);omega
   exact⟨by (try simp only[]);omega,e6,(by (try simp only[List.length_append,List.length_cons,List.length_nil]);omega)⟩
 have e15:=C6_ (f:=λzz=>C1_ zz out) hp3_2 (Gp_ (by omega)) (C1_.eq_1 _);refine kA 11 ?_;refine givec 1 rfl ?_;refine kA 1 ?_;exact rt1 rfl rfl (Aj_ (λr:(List Q_)=> .sl Q_.pc r) e15 (ple rfl))
abbrev R33_:Bs->PV:=λr=> .str r
theorem Ya_:Fn prog gb 26 [] (.bool (Sv_)):=by
 refine kG func26 ntmps26 λw N H hG=>?_;have e0:=Sv_.eq_1;refine kA 7 ?_;refine call Yb_ rfl rfl λw1=>?_;refine kA 4 ?_;exact rt1 rfl rfl (Aj_ (λr:Bool=> .bool r) e0 (ple rfl))
abbrev R39_:Aa_->PV:=λr=> .agg (Aa_.pc r)
theorem Qp_ (yes:Bool):Fn prog gb 55 [.bool yes] (.int .u64 (E5_ yes)):=by
 refine kG func55 ntmps55 λw N H hG=>?_;have e0:=E5_.eq_1 yes;generalize E5_ yes=z at e0 ⊢;refine kA 11 ?_;refine cE e0 (λh1 e2=>?_) (λh1 e3=>?_)
 . refine kA 7 ?_;subst e2;exact qr1
 refine kA 8 ?_;subst e3;exact qr1
theorem T5_ (x:K_):Fn prog gb 130 [.agg (K_.pc x)] (.int .u64 (Dd_ x)):=by
 refine kG func130 ntmps130 λw N H hG=>?_;have e0:=Dd_.eq_1 x;generalize Dd_ x=z at e0 ⊢;refine kB 18 [0] λB2=>?_;refine cE e0 (λh3 e4=>?_) (λh3 e8=>?_)
 . refine kA 11 ?_;refine cE e4 (λh5 e6=>?_) (λh5 e7=>?_)
   . have :=Go_ (1+2);refine kA 13 ?_;subst e6;exact qr1
   refine kA 9 ?_;subst e7;exact qr1
 refine kA 9 ?_;refine cE e8 (λh9 e10=>?_) (λh9 e11=>?_)
 . have :=Go_ (0+2);refine kA 13 ?_;subst e10;exact qr1
 refine kA 9 ?_;subst e11;exact qr1
theorem N5_ (n:B4_) (hk:n.kept.length<=1000/\∀ x∈n.kept,x.text.length<=1000:=by assumption):Fn prog gb 58 [.agg (B4_.pc n)] (.str (C9_ n)):=by
 refine kG func58 ntmps58 λw N H hG=>?_;have hk1:=hk.1;have e0:=C9_.eq_1 n;refine kB 7 [0] λB2=>?_;refine Hu_ (ι:=Nat) [1,2] [0] (λb3=>[(3, .own 1 b3 0)]) (λb3=>[(1, .box b3 134 [.str ((B_ (B_ (⟨[],0⟩:Out) n.total 8) (n.kept.length:Int) 1).s), .int .i64 ((B_ (B_ (⟨[],0⟩:Out) n.total 8) (n.kept.length:Int) 1).err)])]) (λb3=>PV.wf (.agg (Out.pc (B_ (⟨[],0⟩:Out) n.total 8)))/\PV.wf (.agg (Out.pc (B_ (B_ (⟨[],0⟩:Out) n.total 8) (n.kept.length:Int) 1)))) ?_ ?_
 . refine aN [1,2,3,4,5,6,7,8] 11 mixd ?_;refine kE [0,1,2] 8 ?_;refine vC 3 rfl (out_Num (⟨[],0⟩:Out) _ _ (by ((try have :=hrl (by assumption));first|omega|(simp[B_,Ao_,Aw_,numK]<;>omega)))) rfl λw4=>?_;refine kE [4,5,6] 4 ?_;refine veL 7 [9] (by kernel_rfl) ⟨⟨_,rfl,?_⟩,⟨_,rfl,?_⟩,trivial⟩
   . refine ej rfl (eqy (qconv F_ rfl rfl rfl rfl (Kp_ (by omega))) rfl λw5=>?_);refine vC 8 rfl (out_Num (B_ (⟨[],0⟩:Out) n.total 8) _ _ (by ((try have :=hrl (by assumption));first|omega|(simp[B_,Ao_,Aw_,numK]<;>omega)))) rfl λw6=>?_;refine vE 9 rfl (aL F_ 1 λb7=>?_);refine vE 10 rfl (sA F_ ?_);refine vD ?_;refine nX (b7) ?_ ⟨rfl,trivial⟩ ⟨rfl,trivial⟩;exact⟨w4,w6⟩
   refine ej rfl (aL F_ 1 λb8=>?_);refine vE 7 rfl (eqy (qconv F_ rfl rfl rfl rfl (Kp_ (by omega))) rfl λw9=>?_);refine vC 8 rfl (out_Num (B_ (⟨[],0⟩:Out) n.total 8) _ _ (by ((try have :=hrl (by assumption));first|omega|(simp[B_,Ao_,Aw_,numK]<;>omega)))) rfl λw10=>?_;refine vE 10 rfl (sA F_ ?_);refine vD ?_;refine nX (b8) ?_ ⟨rfl,trivial⟩ ⟨rfl,trivial⟩;exact⟨w4,w10⟩
 rintro b3 ⟨w11,w12⟩;have nl0:(⟨[],0⟩:Out).s.length=0:=rfl;have :=R_ (⟨[],0⟩:Out) n.total 8;have :=R_ (B_ (⟨[],0⟩:Out) n.total 8) (n.kept.length:Int) 1;refine kA 11 ?_;refine loop (ι:=Nat×Out) [2,3,16,17] [0] (λ⟨k,x⟩=>[(18, .int .i64 (k:Int))]) (λ⟨k,x⟩=>[(1, .box b3 134 (Out.pc x))]) (λ⟨k,x⟩=>k<=n.kept.length/\C9_ n=Br_ (n.kept.drop k) x/\x.s.length<=16+1100*k) (λ⟨k,x⟩=>n.kept.length-k) ⟨0,(B_ (B_ (⟨[],0⟩:Out) n.total 8) (n.kept.length:Int) 1)⟩ ⟨rfl,trivial⟩ ⟨rfl,trivial⟩ ?_ ?_
 . exact⟨Nat.zero_le _,e0,by omega⟩
 rintro⟨k,x⟩ ⟨hp13_1,hp13_2,hp13_3⟩;refine kA 6 ?_;refine cn rfl (λp15=>?_) λp24=>?_
 . have e16:=C6_ (f:=λzz=>Br_ zz x) hp13_2 (Gb_ (by omega)) (Br_.eq_2 _ _ _);have hc17:=getG (xs:=n.kept) (k:=k) (by omega);have hz_hc17:=hk.2 (gt n.kept k) (List.mem_of_getElem? hc17);refine kA 6 ?_;refine kI k hc17 λw18=>?_;refine kB 5 [2] λB20=>?_;refine aN [3,4,5,6,7,8] 12 mixd ?_;refine kE [0,1,2] 9 ?_;refine vC 3 rfl (out_Num _ _ _ (by ((try have :=hrl (by assumption));first|omega|(simp[B_,Ao_,Aw_,numK]<;>omega)))) rfl λw21=>?_;have :=R_ x ((gt n.kept k).tick) 8;refine kE [4,5,6] 5 ?_;refine vC 7 rfl (out_Num _ _ _ (by ((try have :=hrl (by assumption));first|omega|(simp[B_,Ao_,Aw_,numK]<;>omega)))) rfl λw22=>?_;have :=R_ (B_ x ((gt n.kept k).tick) 8) ((gt n.kept k).kind) 1;refine kE [8,9] 2 ?_;refine vC 10 rfl (Dv_ _ _) rfl λw23=>?_;have :=At_ (B_ (B_ x ((gt n.kept k).tick) 8) ((gt n.kept k).kind) 1) ((gt n.kept k).text);refine vT 11 rfl (sA F_ ?_);refine vD ?_;refine kC 6 ?_;refine next ⟨(k+1),(H_ (B_ (B_ x ((gt n.kept k).tick) 8) ((gt n.kept k).kind) 1) ((gt n.kept k).text))⟩ rfl rfl ⟨rfl,trivial⟩ ⟨rfl,trivial⟩ ?_ ?_
   . (try simp only[]);omega
   exact⟨by (try simp only[]);omega,e16,by omega⟩
 have e25:=C6_ (f:=λzz=>Br_ zz x) hp13_2 (Gp_ (by omega)) (Br_.eq_1 _);refine kA 8 ?_;refine call (Dp_ _) rfl rfl λw26=>?_;refine kA 4 ?_;exact rt1 rfl rfl (Aj_ (λr:Bs=> .str r) e25 (ple rfl))
theorem Pt_ (x:Bc_) (hk:x.kept.length<=1000:=by assumption):Fn prog gb 132 [.agg (Bc_.pc x)] (.str (Bv_ x)):=by
 refine kG func132 ntmps132 λw N H hG=>?_;have e0:=Bv_.eq_1 x;refine kB 7 [0] λB2=>?_;refine Hu_ (ι:=Nat) [1,2] [0] (λb3=>[(3, .own 1 b3 0)]) (λb3=>[(1, .box b3 134 [.str ((B_ (B_ (⟨[],0⟩:Out) x.total 8) (x.kept.length:Int) 1).s), .int .i64 ((B_ (B_ (⟨[],0⟩:Out) x.total 8) (x.kept.length:Int) 1).err)])]) (λb3=>PV.wf (.agg (Out.pc (B_ (⟨[],0⟩:Out) x.total 8)))/\PV.wf (.agg (Out.pc (B_ (B_ (⟨[],0⟩:Out) x.total 8) (x.kept.length:Int) 1)))) ?_ ?_
 . refine aN [1,2,3,4,5,6,7,8] 11 mixd ?_;refine kE [0,1,2] 8 ?_;refine vC 3 rfl (out_Num (⟨[],0⟩:Out) _ _ (by ((try have :=hrl (by assumption));first|omega|(simp[B_,Ao_,Aw_,numK]<;>omega)))) rfl λw4=>?_;refine kE [4,5,6] 4 ?_;refine veL 7 [9] (by kernel_rfl) ⟨⟨_,rfl,?_⟩,⟨_,rfl,?_⟩,trivial⟩
   . refine ej rfl (eqy (qconv F_ rfl rfl rfl rfl (Kp_ (by omega))) rfl λw5=>?_);refine vC 8 rfl (out_Num (B_ (⟨[],0⟩:Out) x.total 8) _ _ (by ((try have :=hrl (by assumption));first|omega|(simp[B_,Ao_,Aw_,numK]<;>omega)))) rfl λw6=>?_;refine vE 9 rfl (aL F_ 1 λb7=>?_);refine vE 10 rfl (sA F_ ?_);refine vD ?_;refine nX (b7) ?_ ⟨rfl,trivial⟩ ⟨rfl,trivial⟩;exact⟨w4,w6⟩
   refine ej rfl (aL F_ 1 λb8=>?_);refine vE 7 rfl (eqy (qconv F_ rfl rfl rfl rfl (Kp_ (by omega))) rfl λw9=>?_);refine vC 8 rfl (out_Num (B_ (⟨[],0⟩:Out) x.total 8) _ _ (by ((try have :=hrl (by assumption));first|omega|(simp[B_,Ao_,Aw_,numK]<;>omega)))) rfl λw10=>?_;refine vE 10 rfl (sA F_ ?_);refine vD ?_;refine nX (b8) ?_ ⟨rfl,trivial⟩ ⟨rfl,trivial⟩;exact⟨w4,w10⟩
 rintro b3 ⟨w11,w12⟩;have nl0:(⟨[],0⟩:Out).s.length=0:=rfl;have :=R_ (⟨[],0⟩:Out) x.total 8;have :=R_ (B_ (⟨[],0⟩:Out) x.total 8) (x.kept.length:Int) 1;refine kA 11 ?_;refine loop (ι:=Nat×Out) [2,3,18,19] [0] (λ⟨k,x1⟩=>[(20, .int .i64 (k:Int))]) (λ⟨k,x1⟩=>[(1, .box b3 134 (Out.pc x1))]) (λ⟨k,x1⟩=>k<=x.kept.length/\Bv_ x=B7_ (x.kept.drop k) x1/\x1.s.length<=16+3000*k) (λ⟨k,x1⟩=>x.kept.length-k) ⟨0,(B_ (B_ (⟨[],0⟩:Out) x.total 8) (x.kept.length:Int) 1)⟩ ⟨rfl,trivial⟩ ⟨rfl,trivial⟩ ?_ ?_
 . exact⟨Nat.zero_le _,e0,by omega⟩
 rintro⟨k,x1⟩ ⟨hp13_1,hp13_2,hp13_3⟩;refine kA 6 ?_;refine cn rfl (λp15=>?_) λp24=>?_
 . have e16:=C6_ (f:=λzz=>B7_ zz x1) hp13_2 (Gb_ (by omega)) (B7_.eq_2 _ _ _);have hc17:=getG (xs:=x.kept) (k:=k) (by omega);refine kA 6 ?_;refine kI k hc17 λw18=>?_;refine kB 8 [2] λB20=>?_;refine call (Lx_ _) rfl rfl λw21=>?_;have :=Ft_ (gt x.kept k);refine kA 10 ?_;refine call (Ja_ _ _) rfl rfl λw22=>?_;have :=Ec_ x1 (Bm_ (gt x.kept k));refine kD 8 [] λ_=>?_;refine next ⟨(k+1),(Ao_ x1 (Bm_ (gt x.kept k)))⟩ rfl rfl ⟨rfl,trivial⟩ ⟨rfl,trivial⟩ ?_ ?_
   . (try simp only[]);omega
   exact⟨by (try simp only[]);omega,e16,by omega⟩
 have e25:=C6_ (f:=λzz=>B7_ zz x1) hp13_2 (Gp_ (by omega)) (B7_.eq_1 _);refine kA 8 ?_;refine call (Dp_ _) rfl rfl λw26=>?_;refine kA 4 ?_;exact rt1 rfl rfl (Aj_ (λr:Bs=> .str r) e25 (ple rfl))
theorem line_Of_ok (items:List K_) (hi:∀ y∈items,MlOk y.Z_:=by assumption):Fn prog gb 203 [.sl K_.pc items] (.tup [.agg (Ac_.pc ((M1_ items).1)), .int .i64 ((M1_ items).2)]):=by
 refine kG func203 ntmps203 λw N H hG=>?_;have items_l:items.length<=140737488355328:=w.1.1;have e0:=M1_.eq_1 items;generalize M1_ items=z at e0 ⊢;refine kB 20 [0,1] λB2=>?_;refine loop (ι:=Nat×Ac_) [2,4,9,10] [0] (λ⟨k,x⟩=>[(11, .int .i64 (k:Int))]) (λ⟨k,x⟩=>[(1, .box (B2 1) 165 (Ac_.pc x))]) (λ⟨k,x⟩=>k<=items.length/\z=F9_ (items.drop k) x) (λ⟨k,x⟩=>items.length-k) ⟨0,(⟨[]⟩:Ac_)⟩ ⟨rfl,trivial⟩ ⟨rfl,trivial⟩ ?_ ?_
 . exact⟨Nat.zero_le _,e0⟩
 rintro⟨k,x⟩ ⟨hp4_1,hp4_2⟩;refine kA 6 ?_;refine cn rfl (λp6=>?_) λp26=>?_
 . have e7:=C6_ (f:=λzz=>F9_ zz x) hp4_2 (Gb_ (by omega)) (F9_.eq_2 _ _ _);have hc8:=getG (xs:=items) (k:=k) (by omega);have hz_hc8:=(hi (gt items k) (List.mem_of_getElem? hc8)).1;refine kA 6 ?_;refine kI k hc8 λw9=>?_;refine kB 9 [2] λB11=>?_;refine cV e7 R2_ (Mm_ _ _) rfl λr hr12 e14 w13=>?_;refine kB 15 [3] λB16=>?_;refine cN e14 (λp19 e20=>?_) (λp23 e24=>?_)
   . refine kB 15 [] λ_=>?_;subst e20;exact qr2
   refine kD 12 [] λ_=>?_;refine next ⟨(k+1),r.1⟩ rfl rfl ⟨rfl,trivial⟩ ⟨rfl,trivial⟩ ?_ ?_
   . (try simp only[]);omega
   exact⟨by (try simp only[]);omega,e24⟩
 have e27:=C6_ (f:=λzz=>F9_ zz x) hp4_2 (Gp_ (by omega)) (F9_.eq_1 _);refine kB 13 [] λ_=>?_;subst e27;exact qr2
abbrev R40_:(List K_)->PV:=λr=> .sl K_.pc r
theorem J2_ (s:D_) (hs:StkOk s:=by assumption) (hq:RoB s:=by assumption):Fn prog gb 57 [.agg (D_.pc s)] (.str (S_ s)):=by
 refine kG func57 ntmps57 λw N H hG=>?_;have hs8:=hs.1.1;have e0:=S_.eq_1 s;refine kB 7 [0] λB2=>?_;refine Hu_ (ι:=Nat) [1,2] [0] (λb3=>[(3, .own 1 b3 0)]) (λb3=>[(1, .box b3 134 [.str ((B_ (B_ (⟨[],0⟩:Out) s.next 8) (s.rows.length:Int) 1).s), .int .i64 ((B_ (B_ (⟨[],0⟩:Out) s.next 8) (s.rows.length:Int) 1).err)])]) (λb3=>PV.wf (.agg (Out.pc (B_ (⟨[],0⟩:Out) s.next 8)))/\PV.wf (.agg (Out.pc (B_ (B_ (⟨[],0⟩:Out) s.next 8) (s.rows.length:Int) 1)))) ?_ ?_
 . refine aN [1,2,3,4,5,6,7,8] 11 mixd ?_;refine kE [0,1,2] 8 ?_;refine vC 3 rfl (out_Num (⟨[],0⟩:Out) _ _ (by ((try have :=hrl (by assumption));first|omega|(simp[B_,Ao_,Aw_,numK]<;>omega)))) rfl λw4=>?_;refine kE [4,5,6] 4 ?_;refine veL 7 [9] (by kernel_rfl) ⟨⟨_,rfl,?_⟩,⟨_,rfl,?_⟩,trivial⟩
   . refine ej rfl (eqy (qconv F_ rfl rfl rfl rfl (Kp_ (by omega))) rfl λw5=>?_);refine vC 8 rfl (out_Num (B_ (⟨[],0⟩:Out) s.next 8) _ _ (by ((try have :=hrl (by assumption));first|omega|(simp[B_,Ao_,Aw_,numK]<;>omega)))) rfl λw6=>?_;refine vE 9 rfl (aL F_ 1 λb7=>?_);refine vE 10 rfl (sA F_ ?_);refine vD ?_;refine nX (b7) ?_ ⟨rfl,trivial⟩ ⟨rfl,trivial⟩;exact⟨w4,w6⟩
   refine ej rfl (aL F_ 1 λb8=>?_);refine vE 7 rfl (eqy (qconv F_ rfl rfl rfl rfl (Kp_ (by omega))) rfl λw9=>?_);refine vC 8 rfl (out_Num (B_ (⟨[],0⟩:Out) s.next 8) _ _ (by ((try have :=hrl (by assumption));first|omega|(simp[B_,Ao_,Aw_,numK]<;>omega)))) rfl λw10=>?_;refine vE 10 rfl (sA F_ ?_);refine vD ?_;refine nX (b8) ?_ ⟨rfl,trivial⟩ ⟨rfl,trivial⟩;exact⟨w4,w10⟩
 rintro b3 ⟨w11,w12⟩;have nl0:(⟨[],0⟩:Out).s.length=0:=rfl;have :=R_ (⟨[],0⟩:Out) s.next 8;have :=R_ (B_ (⟨[],0⟩:Out) s.next 8) (s.rows.length:Int) 1;refine kA 11 ?_;refine loop (ι:=Nat×Out) [1,2,3,24,25] [0] (λ⟨k,x⟩=>[(26, .int .i64 (k:Int))]) (λ⟨k,x⟩=>[(1, .box b3 134 (Out.pc x))]) (λ⟨k,x⟩=>k<=s.rows.length/\S_ s=Bf_ s (s.rows.drop k) x/\x.s.length<=16+300000*k) (λ⟨k,x⟩=>s.rows.length-k) ⟨0,(B_ (B_ (⟨[],0⟩:Out) s.next 8) (s.rows.length:Int) 1)⟩ ⟨rfl,trivial⟩ ⟨rfl,trivial⟩ ?_ ?_
 . exact⟨Nat.zero_le _,e0,by omega⟩
 rintro⟨k,x⟩ ⟨hp13_1,hp13_2,hp13_3⟩;refine kA 6 ?_;refine cn rfl (λp15=>?_) λp46=>?_
 . have e16:=C6_ (f:=λzz=>Bf_ s zz x) hp13_2 (Gb_ (by omega)) (Bf_.eq_2 _ _ _ _);refine kA 3 ?_;obtain⟨o,e_o,q_o⟩:=Hq_ e16;refine Hu_ (ι:=Out) [1,2,3,24,25,26] [0] (λx1=>[]) (λx1=>[(1, .box b3 134 (Out.pc x1))]) (λx1=>o=x1/\x1.s.length<=16+300000*(k+1)) ?_ ?_
   . have hc17:=getG (xs:=s.rows) (k:=k) (by omega);have hz_hc17:=RwsOk.at hs.1 hc17;have hy_hc17:=Rf_ (hq (gt s.rows k) (List.mem_of_getElem? hc17));refine kA 3 ?_;refine kI k hc17 λw18=>?_;refine kB 6 [2] λB20=>?_;refine aN [3,4,5,6,7,8] 23 mixd ?_;refine kE [0,1,2,3] 19 ?_;refine vC 4 rfl (Dv_ x _) rfl λw21=>?_;have :=At_ x ((gt s.rows k).q.name);refine kE [5,6,7] 15 ?_;refine vC 8 rfl (out_Num (H_ x ((gt s.rows k).q.name)) _ _ (by ((try have :=hrl (by assumption));first|omega|(simp[B_,Ao_,Aw_,numK]<;>omega)))) rfl λw22=>?_;have :=R_ (H_ x ((gt s.rows k).q.name)) ((gt s.rows k).q.most) 8;refine kE [9,10,11] 11 ?_;refine vC 12 rfl (out_Num (B_ (H_ x ((gt s.rows k).q.name)) ((gt s.rows k).q.most) 8) _ _ (by ((try have :=hrl (by assumption));first|omega|(simp[B_,Ao_,Aw_,numK]<;>omega)))) rfl λw23=>?_;have :=R_ (B_ (H_ x ((gt s.rows k).q.name)) ((gt s.rows k).q.most) 8) ((gt s.rows k).q.life) 8;refine kE [13,14,15] 7 ?_;refine vC 16 rfl (Dv_ (B_ (B_ (H_ x ((gt s.rows k).q.name)) ((gt s.rows k).q.most) 8) ((gt s.rows k).q.life) 8) _) rfl λw24=>?_;have :=At_ (B_ (B_ (H_ x ((gt s.rows k).q.name)) ((gt s.rows k).q.most) 8) ((gt s.rows k).q.life) 8) ((gt s.rows k).q.dead);refine kE [17,18] 4 ?_;refine vC 19 rfl (Ju_ ((gt s.rows k).l)) rfl λw25=>?_;refine kE [20] 2 ?_;refine vC 21 rfl (out_Num (H_ (B_ (B_ (H_ x ((gt s.rows k).q.name)) ((gt s.rows k).q.most) 8) ((gt s.rows k).q.life) 8) ((gt s.rows k).q.dead)) _ _ (by ((try have :=hrl (by assumption));first|omega|(simp[B_,Ao_,Aw_,numK]<;>omega)))) rfl λw26=>?_;have :=R_ (H_ (B_ (B_ (H_ x ((gt s.rows k).q.name)) ((gt s.rows k).q.most) 8) ((gt s.rows k).q.life) 8) ((gt s.rows k).q.dead)) (IntKind.wrap .u64 (Ea_ ((gt s.rows k).l))) 1;refine vT 22 rfl (sA F_ ?_);refine vD ?_;refine kA 5 ?_;refine cV e_o R40_ (Qz_ _) rfl λr hr27 e29 w28=>?_;have :=all_len hz_hc17
     (try rw[<- hr27] at this)
     refine kA 5 ?_;refine loop (ι:=Nat×Out) [1,2,3,24,25,26,54,55] [0,2] (λ⟨k1,x2⟩=>[(56, .int .i64 (k1:Int))]) (λ⟨k1,x2⟩=>[(1, .box b3 134 (Out.pc x2))]) (λ⟨k1,x2⟩=>k1<=r.length/\o=A7_ (r.drop k1) x2/\x2.s.length<=16+300000*k+100+4000*k1) (λ⟨k1,x2⟩=>r.length-k1) ⟨0,(B_ (H_ (B_ (B_ (H_ x ((gt s.rows k).q.name)) ((gt s.rows k).q.most) 8) ((gt s.rows k).q.life) 8) ((gt s.rows k).q.dead)) (IntKind.wrap .u64 (Ea_ ((gt s.rows k).l))) 1)⟩ ⟨rfl,trivial⟩ ⟨rfl,trivial⟩ ?_ ?_
     . exact⟨Nat.zero_le _,e29,by omega⟩
     rintro⟨k1,x2⟩ ⟨hp30_1,hp30_2,hp30_3⟩;refine kA 6 ?_;refine cn rfl (λp32=>?_) λp42=>?_
     . have e33:=C6_ (f:=λzz=>A7_ zz x2) hp30_2 (Gb_ (by omega)) (A7_.eq_2 _ _ _);have hc34:=getG (xs:=r) (k:=k1) (by omega);refine kA 6 ?_;refine kI k1 hc34 λw35=>?_;refine kB 9 [3] λB37=>?_;refine call (Lx_ _) rfl rfl λw38=>?_;have :=Ft_ ((gt r k1).Z_);refine kA 7 ?_;refine aN [4,5,6,7,8,9] 7 mixd ?_;refine kE [0,1] 5 ?_;refine vC 2 rfl (T5_ (gt r k1)) rfl λw39=>?_;refine vC 3 rfl (out_Num x2 _ _ (by ((try have :=hrl (by assumption));first|omega|(simp[B_,Ao_,Aw_,numK]<;>omega)))) rfl λw40=>?_;have :=R_ x2 (Dd_ (gt r k1)) 1;refine kE [4] 2 ?_;refine vC 5 rfl (Ja_ (B_ x2 (Dd_ (gt r k1)) 1) _) rfl λw41=>?_;have :=Ec_ (B_ x2 (Dd_ (gt r k1)) 1) (Bm_ ((gt r k1).Z_));refine vT 6 rfl (sA F_ ?_);refine vD ?_;refine kC 6 ?_;refine next ⟨(k1+1),(Ao_ (B_ x2 (Dd_ (gt r k1)) 1) (Bm_ ((gt r k1).Z_)))⟩ rfl rfl ⟨rfl,trivial⟩ ⟨rfl,trivial⟩ ?_ ?_
       . (try simp only[]);omega
       exact⟨by (try simp only[]);omega,e33,by omega⟩
     have e43:=C6_ (f:=λzz=>A7_ zz x2) hp30_2 (Gp_ (by omega)) (A7_.eq_1 _);refine kA 5 ?_;refine nX x2 ?_ trivial ⟨rfl,trivial⟩;exact⟨e43,by omega⟩
   rintro x1 ⟨hp44,hp44_3⟩;have e45:=Km_ q_o hp44;refine kC 5 ?_;refine next ⟨(k+1),x1⟩ rfl rfl ⟨rfl,trivial⟩ ⟨rfl,trivial⟩ ?_ ?_
   . (try simp only[]);omega
   exact⟨by (try simp only[]);omega,e45,by omega⟩
 have e47:=C6_ (f:=λzz=>Bf_ s zz x) hp13_2 (Gp_ (by omega)) (Bf_.eq_1 _ _);refine kB 24 [2] λB49=>?_;refine loop (ι:=Nat×Int×Nat×Out) [2,3,10,75] [0,1] (λ⟨f,many,v,x4⟩=>[(11, .int .u64 many),(76, .int .i64 (v:Int))]) (λ⟨f,many,v,x4⟩=>[(2, .box (B49 0) 134 (Out.pc x4))]) (λ⟨f,many,v,x4⟩=>16-v<f/\S_ s=Cq_ s x f many v x4/\v<=16/\x4.s.length<=60000*v) (λ⟨f,many,v,x4⟩=>f) ⟨(16-0+1),0,0,(⟨[],0⟩:Out)⟩ ⟨rfl,rfl,trivial⟩ ⟨rfl,trivial⟩ ?_ ?_
 . exact⟨Nat.lt_succ_self _,e47,⟨by simp,by simp⟩⟩
 rintro⟨f,many,v,x4⟩ ⟨hp50_1,hp50_2,hp50_3⟩;obtain⟨f1,rfl⟩:∃ q,f=q+1:=⟨f-1,by omega⟩;have e_f1:=hp50_2.trans (Cq_.eq_2 _ _ _ _ _ _);refine kA 6 ?_;refine cD e_f1 (λp52 e53=>?_) (λp69 e70=>?_)
 . refine kA 7 ?_;refine q1 (qaivA (λq=>[.int .u64 ((A16.get s.rises q).total), .sl Mail.pc ((A16.get s.rises q).kept)]) v F_ rfl rfl underlying41 rfl rfl rfl rfl (by omega) (bw16 rfl rfl rfl rfl rfl rfl rfl rfl rfl rfl rfl rfl rfl rfl rfl rfl)) rfl λw54=>?_;refine kB 8 [3] λB56=>?_;refine cV e53 R10_ (Pu_ _) rfl λr1 hr57 e59 w58=>?_;refine kA 3 ?_;refine cD e59 (λp61 e62=>?_) (λp67 e68=>?_)
   . refine kA 1 ?_;refine aN [4,5,6,7,8,9] 8 mixd ?_;refine kE [0,1,4] 5 ?_;refine vE 2 rfl (eqy (qconv F_ rfl rfl rfl rfl (Kp_ (by omega))) rfl λw63=>?_);refine vC 3 rfl (out_Num x4 _ _ (by ((try have :=hrl (by assumption));first|omega|(simp[B_,Ao_,Aw_,numK]<;>omega)))) rfl λw64=>?_;have :=R_ x4 (v:Int) 1;refine vC 5 rfl (Pt_ (A16.get s.rises v) (hk:=by exact Nat.le_trans (hs.2.1 v (by omega)).1 (by decide))) rfl λw65=>?_;have :=rb_len (hs.2.1 v (by omega));refine vC 6 rfl (Ja_ (B_ x4 (v:Int) 1) _) rfl λw66=>?_;have :=Ec_ (B_ x4 (v:Int) 1) (Bv_ (A16.get s.rises v));refine vT 7 rfl (sA F_ ?_);refine vD ?_;have :=Go_ (many+1);refine kC 12 ?_;refine next ⟨f1,(IntKind.wrap .u64 (many+1)),(v+1),(Ao_ (B_ x4 (v:Int) 1) (Bv_ (A16.get s.rises v)))⟩ rfl rfl ⟨rfl,rfl,trivial⟩ ⟨rfl,trivial⟩ ?_ ?_
     . (try simp only[]);omega
     exact⟨by (try simp only[]);omega,e62,⟨by (try simp only[]);omega,by (try simp only[]);omega⟩⟩
   refine kC 7 ?_;refine next ⟨f1,many,(v+1),x4⟩ rfl rfl ⟨rfl,rfl,trivial⟩ ⟨rfl,trivial⟩ ?_ ?_
   . (try simp only[]);omega
   exact⟨by (try simp only[]);omega,e68,⟨by (try simp only[]);omega,by (try simp only[]);omega⟩⟩
 refine kA 6 ?_;refine aN [3,4,5,6,7,8] 8 mixd ?_;refine kE [0,1] 6 ?_;refine vC 2 rfl (out_Num x _ _ (by ((try have :=hrl (by assumption));first|omega|(simp[B_,Ao_,Aw_,numK]<;>omega)))) rfl λw71=>?_;have :=R_ x many 1;refine kE [3] 4 ?_;refine vC 4 rfl (Dp_ x4) rfl λw72=>?_;refine vC 5 rfl (Ja_ (B_ x many 1) _) rfl λw73=>?_;have :=Ec_ (B_ x many 1) x4.s;refine vC 6 rfl (Dp_ (Ao_ (B_ x many 1) x4.s)) rfl λw74=>?_;refine kE [7] 0 ?_;refine vD ?_;refine kA 2 ?_;exact rt1 rfl rfl (Aj_ (λr:Bs=> .str r) e70 (ple rfl))
theorem cb121:An_ prog 121:=Ad_ func121 (by kernel_rfl) (by kernel_rfl)
abbrev ty40v152:TI:=⟨.agg [(0,1),(1,1)],2,32,[.int .u64 0, .val (.slice none 0 0)]⟩
def tbv152:Tb:=[(36,ty36),(38,ty38),(40,ty40v152),(64,ty64)]
theorem Iz_:tbB prog tbv152=true:=by kernel_rfl
theorem Y7_ (i:In):Fm prog gb 121 [] 211 (In.pc i) (.agg (Bc_.pc ((Ic_ i).1))) (In.pc ((Ic_ i).2)):=by
 refine P5_ Iz_ func121 rfl ntmps121 rfl cb121 rfl rfl rfl rfl λw wp b N H hG=>?_;have e0:=Ic_.eq_1 i;refine gm Iz_ 8 [1] λB2=>?_;refine ef (ecallm (E2_ _ _) rfl rfl rfl rfl rfl ?_);generalize hr4:Y_ i 8=r;intro w3 w3p;have e5:=e0.trans (Dh_ hr4.symm);have :=Bs_ i 8
 (try simp only[hr4] at *)
 refine gm Iz_ 8 [2] λB8=>?_;refine ef (ecallm (E2_ _ _) rfl rfl rfl rfl rfl ?_);generalize hr10:Y_ r.2 1=r1;intro w9 w9p;have e11:=e5.trans (Dh_ hr10.symm);have :=Bs_ r.2 1
 (try simp only[hr10] at *)
 refine gx Iz_ 4 ?_;obtain⟨o,e_o,q_o⟩:=Hq_ e11;refine Hu_ (ι:=In) [0,2,3,4] [1,2] (λx=>[]) (λx=>[(0, .box b 211 (In.pc x))]) (λx=>o=x) ?_ ?_
 . refine gx Iz_ 4 ?_;refine ef (ecallm (Hn_ _) rfl rfl rfl rfl rfl λw13 w13p=>?_);refine gx Iz_ 4 ?_;refine cN e_o (λp16 e17=>?_) (λp19 e20=>?_)
   . refine gx Iz_ 2 ?_;refine nX r1.2 ?_ trivial ⟨rfl,trivial⟩;exact e17
   refine gx Iz_ 7 ?_;refine cD e20 (λp22 e23=>?_) (λp25 e26=>?_)
   . refine gx Iz_ 2 ?_;refine ef (ecallm (H5_ _ _) rfl rfl rfl rfl rfl λw24 w24p=>?_);refine gx Iz_ 2 ?_;refine nX (Bl_ r1.2 6) ?_ trivial ⟨rfl,trivial⟩;exact e23
   refine gx Iz_ 10 ?_;refine cN e26 (λp29 e30=>?_) (λp33 e34=>?_)
   . refine gx Iz_ 2 ?_;refine ef (ecallm (H5_ _ _) rfl rfl rfl rfl rfl λw31 w31p=>?_);refine gx Iz_ 2 ?_;refine nX (Bl_ r1.2 7) ?_ trivial ⟨rfl,trivial⟩;exact e30
   refine gx Iz_ 2 ?_;refine nX r1.2 ?_ trivial ⟨rfl,trivial⟩;exact e34
 rintro x hp35;have e36:=Km_ q_o hp35;refine gx Iz_ 8 ?_;refine O2_ (i:=2) (o:=1) (k:=7) (e:=64) 3 Mail.pc rfl (by decide) rfl rfl ?_;refine loop (ι:=Nat×Int×Int×(List Mail)×In×Value) [0,2,3,4] [1] (λ⟨f,k,total,kept,x1,u_kept⟩=>[(5, .int .u64 k)]) (λ⟨f,k,total,kept,x1,u_kept⟩=>[(2, .box (B8 0) 40 [.int .u64 total, .osl 3]),(3, .arr u_kept 7 64 Mail.pc kept),(0, .box b 211 (In.pc x1))]) (λ⟨f,k,total,kept,x1,u_kept⟩=>(r1.1-k).toNat<f/\Ic_ i=Gj_ r1 f k total kept x1/\0<=k/\k<=255/\(kept.length:Int)=k) (λ⟨f,k,total,kept,x1,u_kept⟩=>f) ⟨((r1.1-0).toNat+1),0,r.1,[],x,(.slice none 0 0)⟩ ⟨rfl,trivial⟩ ⟨rfl,rfl,rfl,trivial⟩ ?_ ?_
 . exact⟨Nat.lt_succ_self _,e36,⟨by simp,by simp,by simp⟩⟩
 rintro⟨f,k,total,kept,x1,u_kept⟩ ⟨hp37_1,hp37_2,hp37_3⟩;obtain⟨f1,rfl⟩:∃ q,f=q+1:=⟨f-1,by omega⟩;have e_f1:=hp37_2.trans (Gj_.eq_2 _ _ _ _ _ _);refine gx Iz_ 8 ?_;refine callgm rfl (λhc=>(Hn_ _)) rfl rfl rfl rfl ⟨(λhc=>hc),trivial⟩ rfl rfl λ_=>?_;refine gy Iz_ 4 ?_;refine cE e_f1 (λh38 e43=>?_) (λh38 e50=>?_)
 . have h39:=bl h38;have p40:=dt h39;have h41:=br h38;have p42:=dt h41;refine gx Iz_ 4 ?_;refine aN [0,3,4,5,6,7,8,9] 8 mixd ?_;refine gX Iz_ [0,1,2] 5 ?_;refine vE 3 rfl (ecallm (Yr_ _) rfl rfl rfl rfl rfl ?_);generalize hr45:Dz_ x1=r2;intro w44 w44p;have e46:=e43.trans (Dh_ hr45.symm);have :=Tb_ x1;have :=Me_ x1
   (try simp only[hr45] at *)
   refine vE 4 rfl (bsl 4 Mail.pc [r2.1] Iz_ rfl rfl rfl rfl rfl (λ_=>rfl) rfl (by decide) (by decide) rfl λu48=>?_);refine vE 5 rfl (app Iz_ [r2.1] rfl rfl rfl rfl rfl rfl rfl rfl rfl (src_o rfl rfl) (by first|omega|(simp;omega)) rfl λu49=>?_);refine gX Iz_ [6] 1 ?_;refine vT 7 rfl (Jc_ Iz_ rfl rfl rfl rfl rfl rfl rfl rfl rfl ?_);refine vD ?_;have :=Go_ (k+1);refine gx Iz_ 7 ?_;refine next ⟨f1,(IntKind.wrap .u64 (k+1)),total,(kept++[r2.1]),r2.2,(u49)⟩ rfl rfl ⟨rfl,trivial⟩ ⟨rfl,rfl,rfl,trivial⟩ ?_ ?_
   . (try simp only[]);omega
   exact⟨(by (try simp only[]);rw[Ch_ (by omega) (by omega)];omega),e46,⟨(by (try simp only[]);rw[Ch_ (by omega) (by omega)];omega),(by (try simp only[]);rw[Ch_ (by omega) (by omega)];omega),(by simp only[List.length_append,List.length_cons,List.length_nil];rw[Ch_ (by omega) (by omega)];omega)⟩⟩
 refine gx Iz_ 9 ?_;refine ef (ecallm (Hn_ _) rfl rfl rfl rfl rfl λw51 w51p=>?_);refine gx Iz_ 3 ?_;refine cN e50 (λp54 e55=>?_) (λp58 e59=>?_)
 . refine gm Iz_ 8 [] λ_=>?_;exact rm1 rfl rfl (Aj_ (λr:Bc_×In=> .agg (Bc_.pc r.1)) e55 (Fu_ (A_ (ple rfl) (A_ Aq_ A8_)))) rfl rfl rfl (Nb_ (λr:Bc_×In=>In.pc r.2) e55 (ples rfl))
 refine gx Iz_ 4 ?_;refine give 3 rfl ?_;refine gm Iz_ 5 [] λ_=>?_;exact rm1 rfl rfl (Aj_ (λr:Bc_×In=> .agg (Bc_.pc r.1)) e59 (ple rfl)) rfl rfl rfl (Nb_ (λr:Bc_×In=>In.pc r.2) e59 (ples rfl))
theorem cb49:An_ prog 49:=Ad_ func49 (by kernel_rfl) (by kernel_rfl)
abbrev ty46v153:TI:=⟨.agg [(0,1),(1,1)],2,32,[.int .u64 0, .val (.slice none 0 0)]⟩
def tbv153:Tb:=[(5,ty5),(9,ty9),(36,ty36),(44,ty44),(46,ty46v153),(120,ty120)]
theorem Id_:tbB prog tbv153=true:=by kernel_rfl
theorem Pp_ (i:In):Fm prog gb 49 [] 211 (In.pc i) (.agg (B4_.pc ((Do_ i).1))) (In.pc ((Do_ i).2)):=by
 refine P5_ Id_ func49 rfl ntmps49 rfl cb49 rfl rfl rfl rfl λw wp b N H hG=>?_;have e0:=Do_.eq_1 i;refine gm Id_ 8 [1] λB2=>?_;refine ef (ecallm (E2_ _ _) rfl rfl rfl rfl rfl ?_);generalize hr4:Y_ i 8=r;intro w3 w3p;have e5:=e0.trans (Dh_ hr4.symm);have :=Bs_ i 8
 (try simp only[hr4] at *)
 refine gm Id_ 8 [2] λB8=>?_;refine ef (ecallm (E2_ _ _) rfl rfl rfl rfl rfl ?_);generalize hr10:Y_ r.2 1=r1;intro w9 w9p;have e11:=e5.trans (Dh_ hr10.symm);have :=Bs_ r.2 1
 (try simp only[hr10] at *)
 refine gx Id_ 4 ?_;obtain⟨o,e_o,q_o⟩:=Hq_ e11;refine Hu_ (ι:=In) [0,2,3,4] [1,2] (λx=>[]) (λx=>[(0, .box b 211 (In.pc x))]) (λx=>o=x) ?_ ?_
 . refine gx Id_ 4 ?_;refine ef (ecallm (Hn_ _) rfl rfl rfl rfl rfl λw13 w13p=>?_);refine gx Id_ 4 ?_;refine cN e_o (λp16 e17=>?_) (λp19 e20=>?_)
   . refine gx Id_ 2 ?_;refine nX r1.2 ?_ trivial ⟨rfl,trivial⟩;exact e17
   refine gx Id_ 7 ?_;refine cD e20 (λp22 e23=>?_) (λp25 e26=>?_)
   . refine gx Id_ 2 ?_;refine ef (ecallm (H5_ _ _) rfl rfl rfl rfl rfl λw24 w24p=>?_);refine gx Id_ 2 ?_;refine nX (Bl_ r1.2 6) ?_ trivial ⟨rfl,trivial⟩;exact e23
   refine gx Id_ 10 ?_;refine cN e26 (λp29 e30=>?_) (λp33 e34=>?_)
   . refine gx Id_ 2 ?_;refine ef (ecallm (H5_ _ _) rfl rfl rfl rfl rfl λw31 w31p=>?_);refine gx Id_ 2 ?_;refine nX (Bl_ r1.2 7) ?_ trivial ⟨rfl,trivial⟩;exact e30
   refine gx Id_ 2 ?_;refine nX r1.2 ?_ trivial ⟨rfl,trivial⟩;exact e34
 rintro x hp35;have e36:=Km_ q_o hp35;refine gx Id_ 8 ?_;refine O2_ (i:=2) (o:=1) (k:=3) (e:=120) 3 Eh_.pc rfl (by decide) rfl rfl ?_;refine loop (ι:=Nat×Int×Int×(List Eh_)×In×Value) [0,2,3,4] [1] (λ⟨f,k,total,kept,x1,u_kept⟩=>[(5, .int .u64 k)]) (λ⟨f,k,total,kept,x1,u_kept⟩=>[(2, .box (B8 0) 46 [.int .u64 total, .osl 3]),(3, .arr u_kept 3 120 Eh_.pc kept),(0, .box b 211 (In.pc x1))]) (λ⟨f,k,total,kept,x1,u_kept⟩=>(r1.1-k).toNat<f/\Do_ i=En_ r1 f k total kept x1/\0<=k/\k<=255/\(kept.length:Int)=k) (λ⟨f,k,total,kept,x1,u_kept⟩=>f) ⟨((r1.1-0).toNat+1),0,r.1,[],x,(.slice none 0 0)⟩ ⟨rfl,trivial⟩ ⟨rfl,rfl,rfl,trivial⟩ ?_ ?_
 . exact⟨Nat.lt_succ_self _,e36,⟨by simp,by simp,by simp⟩⟩
 rintro⟨f,k,total,kept,x1,u_kept⟩ ⟨hp37_1,hp37_2,hp37_3⟩;obtain⟨f1,rfl⟩:∃ q,f=q+1:=⟨f-1,by omega⟩;have e_f1:=hp37_2.trans (En_.eq_2 _ _ _ _ _ _);refine gx Id_ 8 ?_;refine callgm rfl (λhc=>(Hn_ _)) rfl rfl rfl rfl ⟨(λhc=>hc),trivial⟩ rfl rfl λ_=>?_;refine gy Id_ 4 ?_;refine cE e_f1 (λh38 e43=>?_) (λh38 e62=>?_)
 . have h39:=bl h38;have p40:=dt h39;have h41:=br h38;have p42:=dt h41;refine gx Id_ 7 ?_;refine ef (ecallm (E2_ _ _) rfl rfl rfl rfl rfl ?_);generalize hr45:Y_ x1 8=r2;intro w44 w44p;have e46:=e43.trans (Dh_ hr45.symm);have :=Bs_ x1 8
   (try simp only[hr45] at *)
   refine gx Id_ 1 ?_;refine ef (ecallm (E2_ _ _) rfl rfl rfl rfl rfl ?_);generalize hr49:Y_ r2.2 1=r3;intro w48 w48p;have e50:=e46.trans (Dh_ hr49.symm);have :=Bs_ r2.2 1
   (try simp only[hr49] at *)
   refine q1 (qconv Id_ rfl rfl rfl rfl (rg_u8 (by omega))) rfl λw52=>?_;refine gm Id_ 8 [4] λB54=>?_;refine ef (ecallm (Ho_ _ _) rfl rfl rfl rfl rfl ?_);generalize hr56:X_ r3.2 64=r4;intro w55 w55p;have e57:=e50.trans (Dh_ hr56.symm);have :=Cp_ r3.2 64
   (try simp only[hr56] at *)
   refine gm Id_ 8 [] λ_=>?_;refine ef (bsl 5 Eh_.pc [(⟨r2.1,r3.1,r4.1⟩:Eh_)] Id_ rfl rfl rfl rfl rfl (λ_=>rfl) rfl (by decide) (by decide) rfl λu60=>?_);refine ef (app Id_ [(⟨r2.1,r3.1,r4.1⟩:Eh_)] rfl rfl rfl rfl rfl rfl rfl rfl rfl (src_o rfl rfl) (by first|omega|(simp;omega)) rfl λu61=>?_);refine gx Id_ 1 ?_;refine ef (Jc_ Id_ rfl rfl rfl rfl rfl rfl rfl rfl rfl ?_);have :=Go_ (k+1);refine gx Id_ 8 ?_;refine next ⟨f1,(IntKind.wrap .u64 (k+1)),total,(kept++[(⟨r2.1,r3.1,r4.1⟩:Eh_)]),r4.2,(u61)⟩ rfl rfl ⟨rfl,trivial⟩ ⟨rfl,rfl,rfl,trivial⟩ ?_ ?_
   . (try simp only[]);omega
   exact⟨(by (try simp only[]);rw[Ch_ (by omega) (by omega)];omega),e57,⟨(by (try simp only[]);rw[Ch_ (by omega) (by omega)];omega),(by (try simp only[]);rw[Ch_ (by omega) (by omega)];omega),(by simp only[List.length_append,List.length_cons,List.length_nil];rw[Ch_ (by omega) (by omega)];omega)⟩⟩
 refine gx Id_ 9 ?_;refine ef (ecallm (Hn_ _) rfl rfl rfl rfl rfl λw63 w63p=>?_);refine gx Id_ 3 ?_;refine cN e62 (λp66 e67=>?_) (λp70 e71=>?_)
 . refine gm Id_ 8 [] λ_=>?_;exact rm1 rfl rfl (Aj_ (λr:B4_×In=> .agg (B4_.pc r.1)) e67 (Fu_ (A_ (ple rfl) (A_ Aq_ A8_)))) rfl rfl rfl (Nb_ (λr:B4_×In=>In.pc r.2) e67 (ples rfl))
 refine gx Id_ 4 ?_;refine give 3 rfl ?_;refine gm Id_ 5 [] λ_=>?_;exact rm1 rfl rfl (Aj_ (λr:B4_×In=> .agg (B4_.pc r.1)) e71 (ple rfl)) rfl rfl rfl (Nb_ (λr:B4_×In=>In.pc r.2) e71 (ples rfl))
theorem Ha_ (x:Aa_) (hx:ImOk x:=by assumption):Fn prog gb 12 [.agg (Aa_.pc x)] (.str (Ca_ x)):=by
 refine kG func12 ntmps12 λw N H hG=>?_;have hx1:=hx.1.1;have hx2:=hx.1.2.1;have e0:=Ca_.eq_1 x;refine kB 7 [0] λB2=>?_;refine aN [1,2,3,4,5,6] 8 mixd ?_;refine kE [0,1,3,4] 4 ?_;refine vE 2 rfl (eC (On_ x.book) rfl ?_);generalize hr4:Fo_ x.book=r;intro w3;have e5:=e0.trans (Dh_ hr4.symm);have hr4:=hr4.symm;have hA5:=Wt_ x.book
 (try rw[<- hr4] at hA5)
 have hA6:=congrArg List.length (Wt_ x.book)
 (try rw[<- hr4] at hA6)
 have hsh:=shops_f hx.1 hx.2.1
 (try rw[<- hr4] at hsh)
 refine vE 5 rfl (eC (Om_ x.book (hb:=by exact bk_want hx.1 hx.2.1)) rfl ?_);generalize hr9:D8_ x.book=r1;intro w8;have e10:=e5.trans (Dh_ hr9.symm);have hr9:=hr9.symm;have hA10:=U6_ x.book
 (try rw[<- hr9] at hA10)
 have hA11:=congrArg List.length (U6_ x.book)
 (try rw[<- hr9] at hA11)
 have hbi:=binds_f hx.1 hx.2.1
 (try rw[<- hr9] at hbi)
 refine kE [6,7] 0 ?_;refine vD ?_;refine kA 6 ?_;refine q1 (qconv F_ rfl rfl rfl rfl (Kp_ (by omega))) rfl λw13=>?_;refine call (out_Num (⟨[],0⟩:Out) _ _ (by ((try have :=hrl (by assumption));first|omega|(simp[B_,Ao_,Aw_,numK]<;>omega)))) rfl rfl λw14=>?_;have nl0:(⟨[],0⟩:Out).s.length=0:=rfl;have :=R_ (⟨[],0⟩:Out) (r.length:Int) 1;refine kB 13 [1] λB16=>?_;refine loop (ι:=Nat×Out) [1,2,4,5,28,29] [0] (λ⟨k,x1⟩=>[(30, .int .i64 (k:Int))]) (λ⟨k,x1⟩=>[(1, .box (B16 0) 134 (Out.pc x1))]) (λ⟨k,x1⟩=>k<=r.length/\Ca_ x=Ev_ x r1 (r.drop k) x1/\x1.s.length<=8+100*k) (λ⟨k,x1⟩=>r.length-k) ⟨0,(B_ (⟨[],0⟩:Out) (r.length:Int) 1)⟩ ⟨rfl,trivial⟩ ⟨rfl,trivial⟩ ?_ ?_
 . exact⟨Nat.zero_le _,e10,by omega⟩
 rintro⟨k,x1⟩ ⟨hp17_1,hp17_2,hp17_3⟩;refine kA 6 ?_;refine cn rfl (λp19=>?_) λp28=>?_
 . have e20:=C6_ (f:=λzz=>Ev_ x r1 zz x1) hp17_2 (Gb_ (by omega)) (Ev_.eq_2 _ _ _ _ _);have hc21:=getG (xs:=r) (k:=k) (by omega);have hy_hc21:=Tq_ (hsh.2 (gt r k) (List.mem_of_getElem? hc21));refine kA 6 ?_;refine kI k hc21 λw22=>?_;refine kB 5 [2] λB24=>?_;refine aN [3,4,5,6,7,8] 12 mixd ?_;refine kE [0,1,2] 9 ?_;refine vC 3 rfl (Dv_ x1 _) rfl λw25=>?_;have :=At_ x1 ((gt r k).name);refine kE [4,5,6] 5 ?_;refine vC 7 rfl (out_Num (H_ x1 ((gt r k).name)) _ _ (by ((try have :=hrl (by assumption));first|omega|(simp[B_,Ao_,Aw_,numK]<;>omega)))) rfl λw26=>?_;have :=R_ (H_ x1 ((gt r k).name)) ((gt r k).sort) 1;refine kE [8,9] 2 ?_;refine vC 10 rfl (Dv_ (B_ (H_ x1 ((gt r k).name)) ((gt r k).sort) 1) _) rfl λw27=>?_;have :=At_ (B_ (H_ x1 ((gt r k).name)) ((gt r k).sort) 1) ((gt r k).to');refine vT 11 rfl (sA F_ ?_);refine vD ?_;refine kC 6 ?_;refine next ⟨(k+1),(H_ (B_ (H_ x1 ((gt r k).name)) ((gt r k).sort) 1) ((gt r k).to'))⟩ rfl rfl ⟨rfl,trivial⟩ ⟨rfl,trivial⟩ ?_ ?_
   . (try simp only[]);omega
   exact⟨by (try simp only[]);omega,e20,by omega⟩
 have e29:=C6_ (f:=λzz=>Ev_ x r1 zz x1) hp17_2 (Gp_ (by omega)) (Ev_.eq_1 _ _ _);refine kA 10 ?_;refine q1 (qconv F_ rfl rfl rfl rfl (Kp_ (by omega))) rfl λw30=>?_;refine call (out_Num _ _ _ (by ((try have :=hrl (by assumption));first|omega|(simp[B_,Ao_,Aw_,numK]<;>omega)))) rfl rfl λw31=>?_;have :=R_ x1 (r1.length:Int) 1;refine kB 12 [] λ_=>?_;refine loop (ι:=Nat×Out) [1,2,5,51,52] [0] (λ⟨k1,x2⟩=>[(53, .int .i64 (k1:Int))]) (λ⟨k1,x2⟩=>[(1, .box (B16 0) 134 (Out.pc x2))]) (λ⟨k1,x2⟩=>k1<=r1.length/\Ca_ x=D4_ x (r1.drop k1) x2/\x2.s.length<=1000+1300*k1) (λ⟨k1,x2⟩=>r1.length-k1) ⟨0,(B_ x1 (r1.length:Int) 1)⟩ ⟨rfl,trivial⟩ ⟨rfl,trivial⟩ ?_ ?_
 . exact⟨Nat.zero_le _,e29,by omega⟩
 rintro⟨k1,x2⟩ ⟨hp33_1,hp33_2,hp33_3⟩;refine kA 6 ?_;refine cn rfl (λp35=>?_) λp50=>?_
 . have e36:=C6_ (f:=λzz=>D4_ x zz x2) hp33_2 (Gb_ (by omega)) (D4_.eq_2 _ _ _ _);have hc37:=getG (xs:=r1) (k:=k1) (by omega);have hy_hc37:=bib_f (hbi.2 (gt r1 k1) (List.mem_of_getElem? hc37));refine kA 6 ?_;refine kI k1 hc37 λw38=>?_;refine kB 9 [2] λB40=>?_;refine call (Lp_ _) rfl rfl λw41=>?_;have :=Gc_ ((gt r1 k1).want);have :=Gc_ ((gt r1 k1).want);refine kA 7 ?_;refine aN [3,4,5,6,7,8] 21 mixd ?_;refine kE [0,1,2] 18 ?_;refine vC 3 rfl (Dv_ x2 _) rfl λw42=>?_;have :=At_ x2 ((gt r1 k1).A9_);refine kE [4,5] 15 ?_;refine vC 6 rfl (Dv_ (H_ x2 ((gt r1 k1).A9_)) _) rfl λw43=>?_;have :=At_ (H_ x2 ((gt r1 k1).A9_)) ((gt r1 k1).to');refine kE [7,8] 12 ?_;refine vC 9 rfl (Qp_ _) rfl λw44=>?_;refine vC 10 rfl (out_Num (H_ (H_ x2 ((gt r1 k1).A9_)) ((gt r1 k1).to')) _ _ (by ((try have :=hrl (by assumption));first|omega|(simp[B_,Ao_,Aw_,numK]<;>omega)))) rfl λw45=>?_;have :=R_ (H_ (H_ x2 ((gt r1 k1).A9_)) ((gt r1 k1).to')) (E5_ ((gt r1 k1).up)) 1;refine kE [11,12] 8 ?_;refine vC 13 rfl (Dv_ (B_ (H_ (H_ x2 ((gt r1 k1).A9_)) ((gt r1 k1).to')) (E5_ ((gt r1 k1).up)) 1) _) rfl λw46=>?_;have :=At_ (B_ (H_ (H_ x2 ((gt r1 k1).A9_)) ((gt r1 k1).to')) (E5_ ((gt r1 k1).up)) 1) ((gt r1 k1).key);refine kE [14] 6 ?_;refine vC 15 rfl (Ja_ (H_ (B_ (H_ (H_ x2 ((gt r1 k1).A9_)) ((gt r1 k1).to')) (E5_ ((gt r1 k1).up)) 1) ((gt r1 k1).key)) _) rfl λw47=>?_;have :=Ec_ (H_ (B_ (H_ (H_ x2 ((gt r1 k1).A9_)) ((gt r1 k1).to')) (E5_ ((gt r1 k1).up)) 1) ((gt r1 k1).key)) (Bg_ ((gt r1 k1).want));refine kE [16,17] 3 ?_;refine vC 18 rfl (Qp_ _) rfl λw48=>?_;refine vC 19 rfl (out_Num (Ao_ (H_ (B_ (H_ (H_ x2 ((gt r1 k1).A9_)) ((gt r1 k1).to')) (E5_ ((gt r1 k1).up)) 1) ((gt r1 k1).key)) (Bg_ ((gt r1 k1).want))) _ _ (by ((try have :=hrl (by assumption));first|omega|(simp[B_,Ao_,Aw_,numK]<;>omega)))) rfl λw49=>?_;have :=R_ (Ao_ (H_ (B_ (H_ (H_ x2 ((gt r1 k1).A9_)) ((gt r1 k1).to')) (E5_ ((gt r1 k1).up)) 1) ((gt r1 k1).key)) (Bg_ ((gt r1 k1).want))) (E5_ ((gt r1 k1).all)) 1;refine vT 20 rfl (sA F_ ?_);refine vD ?_;refine kC 6 ?_;refine next ⟨(k1+1),(B_ (Ao_ (H_ (B_ (H_ (H_ x2 ((gt r1 k1).A9_)) ((gt r1 k1).to')) (E5_ ((gt r1 k1).up)) 1) ((gt r1 k1).key)) (Bg_ ((gt r1 k1).want))) (E5_ ((gt r1 k1).all)) 1)⟩ rfl rfl ⟨rfl,trivial⟩ ⟨rfl,trivial⟩ ?_ ?_
   . (try simp only[]);omega
   exact⟨by (try simp only[]);omega,e36,by omega⟩
 have e51:=C6_ (f:=λzz=>D4_ x zz x2) hp33_2 (Gp_ (by omega)) (D4_.eq_1 _ _);refine kA 9 ?_;refine cV e51 R33_ (J2_ _ (hs:=by exact hx.2.2.1) (hq:=by exact hx.2.2.2.1)) rfl λr2 hr52 e54 w53=>?_;have hkb:=kb_len hx.2.2.1 hx.2.2.2.1
 (try rw[<- hr52] at hkb)
 refine kA 4 ?_;refine aN [2,3,4,5,6,7] 12 mixd ?_;refine kE [0,1,2,5,7,8] 6 ?_;refine vE 3 rfl (eqy (qconv F_ rfl rfl rfl rfl (Kp_ (by omega))) rfl λw55=>?_);refine vC 4 rfl (out_Num x2 _ _ (by ((try have :=hrl (by assumption));first|omega|(simp[B_,Ao_,Aw_,numK]<;>omega)))) rfl λw56=>?_;have :=R_ x2 (r2.length:Int) 4;refine vC 6 rfl (Ja_ (B_ x2 (r2.length:Int) 4) _) rfl λw57=>?_;have :=Ec_ (B_ x2 (r2.length:Int) 4) r2;refine vC 9 rfl (N5_ x.notes (hk:=by exact⟨Nat.le_trans hx.2.2.2.2.1 (by decide),λy hy=>Nat.le_trans (hx.2.2.2.2.2 y hy).1 (by decide)⟩)) rfl λw58=>?_;have :=nb_len hx.2.2.2.2.1 hx.2.2.2.2.2;refine vC 10 rfl (Ja_ (Ao_ (B_ x2 (r2.length:Int) 4) r2) _) rfl λw59=>?_;have :=Ec_ (Ao_ (B_ x2 (r2.length:Int) 4) r2) (C9_ x.notes);refine vT 11 rfl (sA F_ ?_);refine vD ?_;refine kA 10 ?_;refine loop (ι:=Nat×Nat×Out) [1,2,5,99] [0] (λ⟨f,v,x3⟩=>[(100, .int .i64 (v:Int))]) (λ⟨f,v,x3⟩=>[(1, .box (B16 0) 134 (Out.pc x3))]) (λ⟨f,v,x3⟩=>16-v<f/\Ca_ x=Gk_ x f v x3/\v<=16/\x3.s.length<=4000000+8*v) (λ⟨f,v,x3⟩=>f) ⟨(16-0+1),0,(Ao_ (Ao_ (B_ x2 (r2.length:Int) 4) r2) (C9_ x.notes))⟩ ⟨rfl,trivial⟩ ⟨rfl,trivial⟩ ?_ ?_
 . exact⟨Nat.lt_succ_self _,e54,⟨by simp,by omega⟩⟩
 rintro⟨f,v,x3⟩ ⟨hp60_1,hp60_2,hp60_3⟩;obtain⟨f1,rfl⟩:∃ q,f=q+1:=⟨f-1,by omega⟩;have e_f1:=hp60_2.trans (Gk_.eq_2 _ _ _ _);refine kA 6 ?_;refine cD e_f1 (λp62 e63=>?_) (λp67 e68=>?_)
 . refine kA 6 ?_;refine q1 (qaiv1 (λq=> .int .u64 (A16.get x.seen q)) v F_ rfl rfl underlying47 rfl rfl rfl rfl (by omega) (λ_=>rfl) (bw16 rfl rfl rfl rfl rfl rfl rfl rfl rfl rfl rfl rfl rfl rfl rfl rfl)) rfl λw64=>?_;refine kA 6 ?_;refine call (out_Num _ _ _ (by ((try have :=hrl (by assumption));first|omega|(simp[B_,Ao_,Aw_,numK]<;>omega)))) rfl rfl λw65=>?_;have :=R_ x3 (A16.get x.seen v) 8;refine kD 8 [] λ_=>?_;refine next ⟨f1,(v+1),(B_ x3 (A16.get x.seen v) 8)⟩ rfl rfl ⟨rfl,trivial⟩ ⟨rfl,trivial⟩ ?_ ?_
   . (try simp only[]);omega
   exact⟨by (try simp only[]);omega,e63,⟨by (try simp only[]);omega,by (try simp only[]);omega⟩⟩
 refine kA 14 ?_;refine loop (ι:=Nat×Nat×Out) [2,5,108] [0] (λ⟨f2,v1,x4⟩=>[(109, .int .i64 (v1:Int))]) (λ⟨f2,v1,x4⟩=>[(1, .box (B16 0) 134 (Out.pc x4))]) (λ⟨f2,v1,x4⟩=>8-v1<f2/\Ca_ x=Fy_ x f2 v1 x4/\v1<=8/\x4.s.length<=4001000+16*v1) (λ⟨f2,v1,x4⟩=>f2) ⟨(8-0+1),0,x3⟩ ⟨rfl,trivial⟩ ⟨rfl,trivial⟩ ?_ ?_
 . exact⟨Nat.lt_succ_self _,e68,⟨by simp,by omega⟩⟩
 rintro⟨f2,v1,x4⟩ ⟨hp69_1,hp69_2,hp69_3⟩;obtain⟨f3,rfl⟩:∃ q,f2=q+1:=⟨f2-1,by omega⟩;have e_f3:=hp69_2.trans (Fy_.eq_2 _ _ _ _);refine kA 6 ?_;refine cD e_f3 (λp71 e72=>?_) (λp78 e79=>?_)
 . refine kA 6 ?_;refine q1 (qaivA (λq=>[.int .u64 ((A8.get x.spent q).round), .int .i64 ((A8.get x.spent q).count)]) v1 F_ rfl rfl underlying50 rfl rfl rfl rfl (by omega) (bw8 rfl rfl rfl rfl rfl rfl rfl rfl)) rfl λw73=>?_;refine kB 4 [2] λB75=>?_;refine aN [3,4,5,6,7,8] 9 mixd ?_;refine kE [0,1,2] 6 ?_;refine vC 3 rfl (out_Num x4 _ _ (by ((try have :=hrl (by assumption));first|omega|(simp[B_,Ao_,Aw_,numK]<;>omega)))) rfl λw76=>?_;have :=R_ x4 ((A8.get x.spent v1).round) 8;refine kE [4,5,6] 2 ?_;refine vC 7 rfl (out_Num (B_ x4 ((A8.get x.spent v1).round) 8) _ _ (by ((try have :=hrl (by assumption));first|omega|(simp[B_,Ao_,Aw_,numK]<;>omega)))) rfl λw77=>?_;have :=R_ (B_ x4 ((A8.get x.spent v1).round) 8) (IntKind.wrap .u64 ((A8.get x.spent v1).count)) 1;refine vT 8 rfl (sA F_ ?_);refine vD ?_;refine kC 6 ?_;refine next ⟨f3,(v1+1),(B_ (B_ x4 ((A8.get x.spent v1).round) 8) (IntKind.wrap .u64 ((A8.get x.spent v1).count)) 1)⟩ rfl rfl ⟨rfl,trivial⟩ ⟨rfl,trivial⟩ ?_ ?_
   . (try simp only[]);omega
   exact⟨by (try simp only[]);omega,e72,⟨by (try simp only[]);omega,by (try simp only[]);omega⟩⟩
 refine kA 8 ?_;refine call (Dp_ _) rfl rfl λw80=>?_;refine kA 4 ?_;exact rt1 rfl rfl (Aj_ (λr:Bs=> .str r) e79 (ple rfl))
theorem cb120:An_ prog 120:=Ad_ func120 (by kernel_rfl) (by kernel_rfl)
theorem Mu_ (s:D_) (i:In) (hs:StkOk s:=by assumption):Fy prog gb 120 (.agg (D_.pc s)) [] 211 (In.pc i) (.agg (D_.pc ((Cc_ s i).1))) (In.pc ((Cc_ s i).2)):=by
 refine fy_cw F_ func120 rfl ntmps120 rfl cb120 rfl rfl rfl rfl λw wp b N H hG=>?_;have e0:=Cc_.eq_1 s i;refine kB 9 [1,2] λB2=>?_;refine ef (ecallm (Ho_ _ _) rfl rfl rfl rfl rfl ?_);generalize hr5:X_ i 16=r;intro w4 w4p;have e6:=e0.trans (Dh_ hr5.symm);have :=Cp_ i 16
 (try simp only[hr5] at *)
 refine kA 1 ?_;refine ef (ecallm (E2_ _ _) rfl rfl rfl rfl rfl ?_);generalize hr9:Y_ r.2 8=r1;intro w8 w8p;have e10:=e6.trans (Dh_ hr9.symm);have :=Bs_ r.2 8
 (try simp only[hr9] at *)
 refine kA 1 ?_;refine ef (ecallm (E2_ _ _) rfl rfl rfl rfl rfl ?_);generalize hr13:Y_ r1.2 8=r2;intro w12 w12p;have e14:=e10.trans (Dh_ hr13.symm);have :=Bs_ r1.2 8
 (try simp only[hr13] at *)
 refine kB 8 [3] λB17=>?_;refine ef (ecallm (Ho_ _ _) rfl rfl rfl rfl rfl ?_);generalize hr19:X_ r2.2 16=r3;intro w18 w18p;have e20:=e14.trans (Dh_ hr19.symm);have :=Cp_ r2.2 16
 (try simp only[hr19] at *)
 refine kB 13 [] λ_=>?_;refine ef (ecallm (E2_ _ _) rfl rfl rfl rfl rfl ?_);generalize hr24:Y_ r3.2 1=r4;intro w23 w23p;have e25:=e20.trans (Dh_ hr24.symm);have :=Bs_ r3.2 1
 (try simp only[hr24] at *)
 refine kA 4 ?_;refine sw_own (t:=6) (k:=9) (e:=68) 4 K_.pc rfl rfl ?_;refine loop (ι:=Nat×(List K_)×Int×In×Value) [1,2,4,5] [1,2,3] (λ⟨f,items,n,x,u_items⟩=>[(6, .osl 4),(7, .int .u64 n)]) (λ⟨f,items,n,x,u_items⟩=>[(4, .arr u_items 9 68 K_.pc items),(0, .box b 211 (In.pc x))]) (λ⟨f,items,n,x,u_items⟩=>(n).toNat<f/\Cc_ s i=A1_ s r r1 r2 r3 f items n x/\0<=n/\(items.length:Int)+n<=255/\∀ y∈items,MlOk y.Z_) (λ⟨f,items,n,x,u_items⟩=>f) ⟨((r4.1).toNat+1),[],r4.1,r4.2,(.slice none 0 0)⟩ ⟨rfl,rfl,trivial⟩ ⟨rfl,rfl,trivial⟩ ?_ ?_
 . exact⟨Nat.lt_succ_self _,e25,⟨by omega,by (try simp only[List.length_nil]);omega,mls_nil⟩⟩
 rintro⟨f,items,n,x,u_items⟩ ⟨hp27_1,hp27_2,hp27_3⟩;obtain⟨hi1,hi2,hi3⟩:=hp27_3;obtain⟨f1,rfl⟩:∃ q,f=q+1:=⟨f-1,by omega⟩;have e_f1:=hp27_2.trans (A1_.eq_2 _ _ _ _ _ _ _ _ _);refine kA 7 ?_;refine callgm rfl (λhc=>(Hn_ _)) rfl rfl rfl rfl ⟨(λhc=>hc),trivial⟩ rfl rfl λ_=>?_;refine kC 4 ?_;refine cE e_f1 (λh28 e33=>?_) (λh28 e55=>?_)
 . have h29:=bl h28;have p30:=dt h29;have h31:=br h28;have p32:=dt h31;refine kA 7 ?_;refine ef (ecallm (E2_ _ _) rfl rfl rfl rfl rfl ?_);generalize hr35:Y_ x 1=r5;intro w34 w34p;have e36:=e33.trans (Dh_ hr35.symm);have :=Bs_ x 1
   (try simp only[hr35] at *)
   refine kA 6 ?_;refine ef (ecallm (Yr_ _) rfl rfl rfl rfl rfl ?_);generalize hr39:Dz_ r5.2=r6;intro w38 w38p;have e40:=e36.trans (Dh_ hr39.symm);have :=Tb_ r5.2;have :=Me_ r5.2
   (try simp only[hr39] at *)
   refine kD 31 [5] λB43=>?_;refine cE e40 (λh44 e45=>?_) (λh44 e52=>?_)
   . refine kA 2 ?_;refine ef (ecallm (H5_ _ _) rfl rfl rfl rfl rfl λw46 w46p=>?_);refine kA 5 ?_;refine ef (bsl 6 K_.pc [(⟨r6.1,decide ((r5.1%2)=1),decide ((r5.1/2)=1)⟩:K_)] F_ rfl rfl rfl rfl rfl (λ_=>rfl) rfl (by decide) (by decide) rfl λu47=>?_);refine ef (app F_ [(⟨r6.1,decide ((r5.1%2)=1),decide ((r5.1/2)=1)⟩:K_)] rfl rfl rfl rfl rfl rfl rfl rfl rfl (src_o rfl rfl) (by first|omega|(simp;omega)) rfl λu48=>?_);have :=Go_ (n-1);refine kA 9 ?_;refine next ⟨f1,(items++[(⟨r6.1,decide ((r5.1%2)=1),decide ((r5.1/2)=1)⟩:K_)]),(IntKind.wrap .u64 (n-1)),(Bl_ r6.2 4),(u48)⟩ rfl rfl ⟨rfl,rfl,trivial⟩ ⟨rfl,rfl,trivial⟩ ?_ ?_
     . (try simp only[]);omega
     exact⟨(by (try simp only[]);rw[Ch_ (by omega) (by omega)];omega),e45,⟨by (try simp only[]);rw[Ch_ (by omega) (by omega)];omega,by simp only[List.length_append,List.length_cons,List.length_nil];rw[Ch_ (by omega) (by omega)];omega,mls_app (by assumption) (by assumption)⟩⟩
   have h49:=orl h44;have p50:=df h49;have h51:=orr h44;refine kA 5 ?_;refine ef (bsl 6 K_.pc [(⟨r6.1,decide ((r5.1%2)=1),decide ((r5.1/2)=1)⟩:K_)] F_ rfl rfl rfl rfl rfl (λ_=>rfl) rfl (by decide) (by decide) rfl λu53=>?_);refine ef (app F_ [(⟨r6.1,decide ((r5.1%2)=1),decide ((r5.1/2)=1)⟩:K_)] rfl rfl rfl rfl rfl rfl rfl rfl rfl (src_o rfl rfl) (by first|omega|(simp;omega)) rfl λu54=>?_);have :=Go_ (n-1);refine kA 9 ?_;refine next ⟨f1,(items++[(⟨r6.1,decide ((r5.1%2)=1),decide ((r5.1/2)=1)⟩:K_)]),(IntKind.wrap .u64 (n-1)),r6.2,(u54)⟩ rfl rfl ⟨rfl,rfl,trivial⟩ ⟨rfl,rfl,trivial⟩ ?_ ?_
   . (try simp only[]);omega
   exact⟨(by (try simp only[]);rw[Ch_ (by omega) (by omega)];omega),e52,⟨by (try simp only[]);rw[Ch_ (by omega) (by omega)];omega,by simp only[List.length_append,List.length_cons,List.length_nil];rw[Ch_ (by omega) (by omega)];omega,mls_app (by assumption) (by assumption)⟩⟩
 refine kA 8 ?_;refine give 4 rfl ?_;refine cV e55 R2_ (line_Of_ok _) rfl λr7 hr56 e58 w57=>?_;have hA58:=lof_ok (t:=items) (by assumption)
 (try rw[<- hr56] at hA58)
 refine kB 12 [4] λB61=>?_;refine ef (ecallm (H5_ _ _) rfl rfl rfl rfl rfl λw62 w62p=>?_);refine kA 3 ?_;obtain⟨o,e_o,q_o⟩:=Hq_ e58;refine Hu_ (ι:=In) [1,2,4,5,10] [1,2,3,4] (λx1=>[]) (λx1=>[(0, .box b 211 (In.pc x1))]) (λx1=>o=x1) ?_ ?_
 . refine kA 1 ?_;refine aN [5,6,7,8,9,10] 13 mixd ?_;refine kE [0] 12 ?_;refine vC 1 rfl (Ju_ r7.1) rfl λw63=>?_;refine kF [2,3,4,5,6,7,8,9] 3 ?_;refine vcallg 10 rfl (by kernel_rfl) rfl (λhc=>(Eq_ s _)) rfl rfl ⟨(λhc=>hc),(λhc=>hc),trivial⟩ rfl λ_=>?_;refine kF [11,12] 0 ?_;refine vD ?_;refine kA 1 ?_;refine cE e_o (λh64 e65=>?_) (λh64 e71=>?_)
   . refine kA 2 ?_;refine ef (ecallm (H5_ _ _) rfl rfl rfl rfl rfl λw66 w66p=>?_);refine kA 1 ?_;refine nX (Bl_ (Bl_ x r7.2) 4) ?_ trivial ⟨rfl,trivial⟩;exact e65
   have h67:=orl h64;have p68:=df h67;have h69:=orr h64;have p70:=df h69;refine kA 1 ?_;refine nX (Bl_ x r7.2) ?_ trivial ⟨rfl,trivial⟩;exact e71
 rintro x1 hp72;have e73:=Km_ q_o hp72;refine kA 5 ?_;refine cV e73 R11_ (Ij_ _ (⟨r.1,r1.1,r2.1,r3.1⟩:U_)) rfl λr8 hr74 e76 w75=>?_;have hA76:=Mb_ (q:=(⟨r.1,r1.1,r2.1,r3.1⟩:U_)) (s:=s) (by first|assumption|exact StOk.stk (by assumption))
 (try rw[<- hr74] at hA76)
 have hmr:=(Mb_ (q:=(⟨r.1,r1.1,r2.1,r3.1⟩:U_)) (s:=s) hs).1.1
 (try rw[<- hr74] at hmr)
 have hmk:=Xp_ s (⟨r.1,r1.1,r2.1,r3.1⟩:U_)
 (try rw[<- hr74] at hmk)
 refine kB 11 [] λ_=>?_;refine ef (ecallm (H5_ _ _) rfl rfl rfl rfl rfl λw79 w79p=>?_);refine kA 6 ?_;refine ef (ecallm (Hn_ _) rfl rfl rfl rfl rfl λw80 w80p=>?_);refine kA 3 ?_;refine cE e76 (λh81 e83=>?_) (λh81 e90=>?_)
 . have p82:=dt h81;have hfl:=(Q8_ (dt h81)).2;refine kC 7 ?_;refine cV e83 R6_ (Fc_ _ _ _ (hs:=by exact Nat.le_trans (by assumption :StkOk _).1.1 (by decide)) (hk:=by have :=hmk hfl;omega)) rfl λr9 hr84 e86 w85=>?_;have hA86:=H8_ r8.1 ((r8.1.rows.length:Int)-1) r7.1
   (try rw[<- hr84] at hA86)
   have hwi:=Mc_ (s:=r8.1) (k:=((r8.1.rows.length:Int)-1)) (l:=r7.1) (by assumption) (by assumption) (by have :=hmk hfl;omega);refine kB 10 [] λ_=>?_;exact rm1 rfl rfl (Aj_ (λr:D_×In=> .agg (D_.pc r.1)) e86 (ple rfl)) rfl rfl rfl (Nb_ (λr:D_×In=>In.pc r.2) e86 (ples rfl))
 have p89:=df h81;refine kB 9 [] λ_=>?_;exact rm1 rfl rfl (Aj_ (λr:D_×In=> .agg (D_.pc r.1)) e90 (ple rfl)) rfl rfl rfl (Nb_ (λr:D_×In=>In.pc r.2) e90 (ples rfl))
theorem Mk_ (text:Bs) (bytes:Int) (hb:bytes<=1000000:=by omega):Fn prog gb 46 [.str text, .int .i64 bytes] (.tup [.agg (D_.pc ((Gs_ text bytes).1)), .int .i64 ((Gs_ text bytes).2)]):=by
 refine kG func46 ntmps46 λw N H hG=>?_;have e0:=Gs_.eq_1 text bytes;generalize Gs_ text bytes=z at e0 ⊢;refine kB 9 [0] λB2=>?_;refine ef (ecallb 1 (Td_ _) rfl rfl λw3 b4=>?_);refine kA 6 ?_;refine ef (ecallm (E2_ (⟨text,0⟩) _) rfl rfl rfl rfl rfl ?_);generalize hr6:Y_ (⟨text,0⟩) 8=r;intro w5 w5p;have e7:=e0.trans (Dh_ hr6.symm);have :=Bs_ (⟨text,0⟩) 8
 (try simp only[hr6] at *)
 refine kA 1 ?_;refine cV e7 R6_ (Nh_ _ _) rfl λr1 hr9 e11 w10=>?_;have hnw:=knew_f r.1 bytes hb
 (try first|rw[<- hr9] at hnw|rw[hr9] at hnw)
 refine kB 8 [2] λB13=>?_;refine ef (ecallm (E2_ _ _) rfl rfl rfl rfl rfl ?_);generalize hr15:Y_ r.2 1=r2;intro w14 w14p;have e16:=e11.trans (Dh_ hr15.symm);have :=Bs_ r.2 1
 (try simp only[hr15] at *)
 refine kA 4 ?_;refine loop (ι:=Nat×Int×In×D_) [0,4,5,6,7] [0] (λ⟨f,n,x,x1⟩=>[(8, .int .u64 n)]) (λ⟨f,n,x,x1⟩=>[(1, .box b4 211 (In.pc x)),(2, .box (B13 0) 43 (D_.pc x1))]) (λ⟨f,n,x,x1⟩=>(n).toNat<f/\z=Fb_ text f n x x1/\(0<=n/\n<=255)/\StkOk x1/\RoB x1) (λ⟨f,n,x,x1⟩=>f) ⟨((r2.1).toNat+1),r2.1,r2.2,r1⟩ ⟨rfl,trivial⟩ ⟨rfl,rfl,trivial⟩ ?_ ?_
 . exact⟨Nat.lt_succ_self _,e16,⟨by omega,hnw.1,hnw.2⟩⟩
 rintro⟨f,n,x,x1⟩ ⟨hp18_1,hp18_2,hp18_3⟩;obtain⟨hi1,hi2,hi3⟩:=hp18_3;obtain⟨f1,rfl⟩:∃ q,f=q+1:=⟨f-1,by omega⟩;have e_f1:=hp18_2.trans (Fb_.eq_2 _ _ _ _ _);refine kA 7 ?_;refine callgm rfl (λhc=>(Hn_ _)) rfl rfl rfl rfl ⟨(λhc=>hc),trivial⟩ rfl rfl λ_=>?_;refine kC 4 ?_;refine cE e_f1 (λh19 e24=>?_) (λh19 e29=>?_)
 . have h20:=bl h19;have p21:=dt h20;have h22:=br h19;have p23:=dt h22;refine kA 7 ?_;refine ef (ecally (Mu_ _ _) rfl rfl rfl rfl rfl ?_);generalize hr26:Cc_ x1 x=r3;intro w25 w25p;have e27:=e24.trans (Dh_ hr26.symm);have hrr:=rrow_ok hi2 hi3 x
   (try first|rw[<- hr26.symm] at hrr|rw[hr26.symm] at hrr)
   have :=Go_ (n-1);refine kB 9 [] λ_=>?_;refine next ⟨f1,(IntKind.wrap .u64 (n-1)),r3.2,r3.1⟩ rfl rfl ⟨rfl,trivial⟩ ⟨rfl,rfl,trivial⟩ ?_ ?_
   . (try simp only[]);omega
   exact⟨(by (try simp only[]);rw[Ch_ (by omega) (by omega)];omega),e27,⟨(by (try simp only[]);rw[Ch_ (by omega) (by omega)];omega),hrr.1,hrr.2⟩⟩
 refine kA 6 ?_;obtain⟨o,e_o,q_o⟩:=Yo_ e29;refine Hu_ (ι:=In×D_) [0,4,5,6,7] [0] (λ⟨x2,x3⟩=>[]) (λ⟨x2,x3⟩=>[(1, .box b4 211 (In.pc x2)),(2, .box (B13 0) 43 (D_.pc x3))]) (λ⟨x2,x3⟩=>o=(x2,x3)/\StkOk x3/\RoB x3) ?_ ?_
 . refine kA 3 ?_;refine ef (ecallm (E2_ _ _) rfl rfl rfl rfl rfl ?_);generalize hr31:Y_ x 1=r4;intro w30 w30p;have e32:=e_o.trans (Dh_ hr31.symm);have :=Bs_ x 1
   (try simp only[hr31] at *)
   refine kA 4 ?_;refine loop (ι:=Nat×Int×In×D_) [0,4,5,6,7] [0] (λ⟨f2,n1,x4,x5⟩=>[(9, .int .u64 n1)]) (λ⟨f2,n1,x4,x5⟩=>[(1, .box b4 211 (In.pc x4)),(2, .box (B13 0) 43 (D_.pc x5))]) (λ⟨f2,n1,x4,x5⟩=>(n1).toNat<f2/\o=Gn_ f2 n1 x4 x5/\(0<=n1/\n1<=255)/\StkOk x5/\RoB x5) (λ⟨f2,n1,x4,x5⟩=>f2) ⟨((r4.1).toNat+1),r4.1,r4.2,x1⟩ ⟨rfl,trivial⟩ ⟨rfl,rfl,trivial⟩ ?_ ?_
   . exact⟨Nat.lt_succ_self _,e32,⟨by omega,hi2,hi3⟩⟩
   rintro⟨f2,n1,x4,x5⟩ ⟨hp34_1,hp34_2,hp34_3⟩;obtain⟨hi1,hi2,hi3⟩:=hp34_3;obtain⟨f3,rfl⟩:∃ q,f2=q+1:=⟨f2-1,by omega⟩;have e_f3:=hp34_2.trans (Gn_.eq_2 _ _ _ _);refine kA 7 ?_;refine callgm rfl (λhc=>(Hn_ _)) rfl rfl rfl rfl ⟨(λhc=>hc),trivial⟩ rfl rfl λ_=>?_;refine kC 4 ?_;refine cE e_f3 (λh35 e40=>?_) (λh35 e57=>?_)
   . have h36:=bl h35;have p37:=dt h36;have h38:=br h35;have p39:=dt h38;refine kA 7 ?_;refine ef (ecallm (E2_ _ _) rfl rfl rfl rfl rfl ?_);generalize hr42:Y_ x4 1=r5;intro w41 w41p;have e43:=e40.trans (Dh_ hr42.symm);have :=Bs_ x4 1
     (try simp only[hr42] at *)
     refine kA 6 ?_;refine ef (ecallm (Y7_ _) rfl rfl rfl rfl rfl ?_);generalize hr46:Ic_ r5.2=r6;intro w45 w45p;have e47:=e43.trans (Dh_ hr46.symm);have hri:=rread_ok r5.2
     (try first|rw[<- hr46.symm] at hri|rw[hr46.symm] at hri)
     refine kB 11 [3] λB49=>?_;refine cD e47 (λp51 e52=>?_) (λp54 e55=>?_)
     . refine kA 3 ?_;refine ef (ecallm (H5_ _ _) rfl rfl rfl rfl rfl λw53 w53p=>?_);refine kA 8 ?_;refine nX ⟨(Bl_ r6.2 4),x5⟩ ?_ trivial ⟨rfl,rfl,trivial⟩;exact⟨e52,⟨hi2,hi3⟩⟩
     refine kA 6 ?_;refine q1 (qaia (r5.1).toNat rfl rfl underlying41 sz40 (by omega) (by omega)) rfl λw56=>?_;refine ef (Re_ (sz:=2) (len:=16) (λq=>D_.pc (⟨x5.next,x5.bytes,x5.rows,(A16.set x5.rises r6.1 q)⟩:D_)) ((r5.1).toNat) 3 2 0 F_ rfl rfl rfl rfl rfl rfl rfl rfl rfl (by omega) (bw16 rfl rfl rfl rfl rfl rfl rfl rfl rfl rfl rfl rfl rfl rfl rfl rfl) rfl (bw16 rfl rfl rfl rfl rfl rfl rfl rfl rfl rfl rfl rfl rfl rfl rfl rfl) rfl ?_);have :=Go_ (n1-1);refine kA 8 ?_;refine next ⟨f3,(IntKind.wrap .u64 (n1-1)),r6.2,(⟨x5.next,x5.bytes,x5.rows,(A16.set x5.rises r6.1 ((r5.1).toNat))⟩:D_)⟩ rfl rfl ⟨rfl,trivial⟩ ⟨rfl,rfl,trivial⟩ ?_ ?_
     . (try simp only[]);omega
     exact⟨(by (try simp only[]);rw[Ch_ (by omega) (by omega)];omega),e55,⟨(by (try simp only[]);rw[Ch_ (by omega) (by omega)];omega),hi2.set _ (by omega) hri,hi3⟩⟩
   refine kA 4 ?_;refine nX ⟨x4,x5⟩ ?_ trivial ⟨rfl,rfl,trivial⟩;exact⟨e57,⟨hi2,hi3⟩⟩
 rintro⟨x2,x3⟩ ⟨hp58,hp58_3⟩;have e59:=lt2_fin q_o hp58;refine kA 5 ?_;refine ef (ecallm (in_End _) rfl rfl rfl rfl rfl λw60 w60p=>?_);refine kA 3 ?_;refine callg rfl (λhc=>(Kv_ _ (hs:=by exact (by assumption :StkOk _/\RoB _).1))) rfl ⟨(λhc=>hc),trivial⟩ rfl rfl λ_=>?_;refine kC 4 ?_;refine callg rfl (λhc=>(J2_ _ (hs:=by exact (by assumption :StkOk _/\RoB _).1) (hq:=by exact (by assumption :StkOk _/\RoB _).2))) rfl ⟨(λhc=>hc),trivial⟩ rfl rfl λ_=>?_;refine kC 5 ?_;refine cE e59 (λh61 e62=>?_) (λh61 e73=>?_)
 . refine kB 9 [] λ_=>?_;subst e62;exact qr2
 have h64:=orl h61;have h65:=orl h64;have h66:=Di_ h65;have p67:=dt h66;have h68:=orr h64;have p69:=df h68;have h70:=orr h61;have h71:=Di_ h70;have p72:=dt h71;refine kB 10 [] λ_=>?_;subst e73;exact qr2
theorem ag35:Ag prog 35 true:=λw=>by kernel_rfl
theorem cb51:An_ prog 51:=Ad_ func51 (by kernel_rfl) (by kernel_rfl)
theorem sz35:Sz prog 35 2:=λw=>by kernel_rfl
theorem Gr_ (r:RdR) (s:C_) (queues:List U_) (hs:StOk s:=by assumption) (hd:∀ d∈r.Gt_,DdG d:=by assumption):Fm prog gb 51 [.agg (C_.pc s), .sl U_.pc queues] 125 (RdR.pc r) (.tup [.agg (Ap_.pc ((As_ r s queues).1)), .bool ((As_ r s queues).2.1)]) (RdR.pc ((As_ r s queues).2.2)):=by
 refine P5_ F_ func51 rfl ntmps51 rfl cb51 rfl rfl rfl rfl λw wp b N H hG=>?_;have queues_l:queues.length<=140737488355328:=w.2.1.1;have r_deeds_l:r.Gt_.length<=140737488355328:=wp.2.1.1;have e0:=As_.eq_1 r s queues;refine kB 16 [1,2] λB2=>?_;refine loop (ι:=Nat×C_) [0,4,6,7,16,17] [0,2] (λ⟨k,x⟩=>[(18, .int .i64 (k:Int))]) (λ⟨k,x⟩=>[(1, .box (B2 0) 54 (C_.pc x))]) (λ⟨k,x⟩=>k<=queues.length/\As_ r s queues=Be_ r (queues.drop k) x/\StOk x) (λ⟨k,x⟩=>queues.length-k) ⟨0,s⟩ ⟨rfl,trivial⟩ ⟨rfl,trivial⟩ ?_ ?_
 . exact⟨Nat.zero_le _,e0,hs⟩
 rintro⟨k,x⟩ ⟨hp4_1,hp4_2,hp4_3⟩;refine kA 6 ?_;refine cn rfl (λp6=>?_) λp17=>?_
 . have e7:=C6_ (f:=λzz=>Be_ r zz x) hp4_2 (Gb_ (by omega)) (Be_.eq_2 _ _ _ _);have hc8:=getG (xs:=queues) (k:=k) (by omega);refine kA 6 ?_;refine kI k hc8 λw9=>?_;refine kB 9 [3] λB11=>?_;refine cV e7 R22_ (Er_ _ (⟨2,0,(⟨[],0,[]⟩:W_),(gt queues k),(⟨[],[],false,[],[],false⟩:Q_),[],0,0,0,0,0,(⟨0,[],[],[],[],0,0⟩:Mail),[]⟩:O_) (hd:=by first|assumption|exact (ddq _).1)) rfl λr1 hr12 e14 w13=>?_;have hA14:=Ru_ (s:=x) (d:=(⟨2,0,(⟨[],0,[]⟩:W_),(gt queues k),(⟨[],[],false,[],[],false⟩:Q_),[],0,0,0,0,0,(⟨0,[],[],[],[],0,0⟩:Mail),[]⟩:O_)) (by assumption) (by first|assumption|exact dd1 (by decide +kernel)|exact⟨by first|(simp;done)|omega,by first|(simp;done)|omega,by first|(simp;done)|((try dsimp only);omega),by first|(simp;done)|((try dsimp only);omega)⟩) (by first|assumption|omega|(dsimp only;omega)|decide +kernel)
   (try rw[<- hr12] at hA14)
   refine kD 12 [] λ_=>?_;refine next ⟨(k+1),r1.1⟩ rfl rfl ⟨rfl,trivial⟩ ⟨rfl,trivial⟩ ?_ ?_
   . (try simp only[]);omega
   exact⟨by (try simp only[]);omega,e14,by assumption⟩
 have e18:=C6_ (f:=λzz=>Be_ r zz x) hp4_2 (Gp_ (by omega)) (Be_.eq_1 _ _);refine kA 17 ?_;refine loop (ι:=Nat×C_) [4,6,34,35] [0,2] (λ⟨k1,x1⟩=>[(36, .int .i64 (k1:Int))]) (λ⟨k1,x1⟩=>[(1, .box (B2 0) 54 (C_.pc x1))]) (λ⟨k1,x1⟩=>k1<=r.Gt_.length/\As_ r s queues=Ah_ r (r.Gt_.drop k1) x1/\StOk x1) (λ⟨k1,x1⟩=>r.Gt_.length-k1) ⟨0,x⟩ ⟨rfl,trivial⟩ ⟨rfl,trivial⟩ ?_ ?_
 . exact⟨Nat.zero_le _,e18,by assumption⟩
 rintro⟨k1,x1⟩ ⟨hp19_1,hp19_2,hp19_3⟩;refine kA 6 ?_;refine cn rfl (λp21=>?_) λp49=>?_
 . have e22:=C6_ (f:=λzz=>Ah_ r zz x1) hp19_2 (Gb_ (by omega)) (Ah_.eq_2 _ _ _ _);have hc23:=getG (xs:=r.Gt_) (k:=k1) (by omega);have hd_hc23:=hd (gt r.Gt_ k1) (List.mem_of_getElem? hc23);have hdo_hc23:=hd_hc23.1;have hdh_hc23:=hd_hc23.2.2.2.1;refine kA 6 ?_;refine kI k1 hc23 λw24=>?_;refine kB 8 [3] λB26=>?_;refine cV e22 R39_ (Cr_ _) rfl λr2 hr27 e29 w28=>?_;refine q1 (qfA rfl underlying52 rfl ag35 sz35 rfl) rfl λw30=>?_;refine kB 8 [4] λB32=>?_;refine cV e29 R22_ (Er_ _ _ (hd:=by first|assumption|exact (ddq _).1)) rfl λr3 hr33 e35 w34=>?_;have hA35:=Ru_ (s:=x1) (d:=(gt r.Gt_ k1)) (by assumption) (by first|assumption|exact dd1 (by decide +kernel)|exact⟨by first|(simp;done)|omega,by first|(simp;done)|omega,by first|(simp;done)|((try dsimp only);omega),by first|(simp;done)|((try dsimp only);omega)⟩) (by first|assumption|omega|(dsimp only;omega)|decide +kernel)
   (try rw[<- hr33] at hA35)
   refine kB 13 [5,6] λB38=>?_;refine aN [7,8,9,10,11,12] 9 mixd ?_;refine kE [0,1,2,3,4] 4 ?_;refine vE 5 rfl (ecallg rfl (λhc=>(Cr_ r3.1)) rfl ⟨(λhc=>hc),trivial⟩ rfl rfl λ_=>?_);refine vqg 6 [55] rfl (by kernel_rfl) rfl rfl (λhc=>qfA rfl underlying52 rfl ag35 sz35 rfl) ⟨(λhc=>hc),trivial⟩ rfl λ_=>?_;refine vcallg 7 rfl (by kernel_rfl) rfl (λhc=>(Pw_ r2.book ((J_ r3.1).book))) rfl rfl ⟨(λhc=>hc),(λhc=>hc),trivial⟩ rfl λ_=>?_;refine kF [8] 0 ?_;refine vD ?_;refine kA 1 ?_;refine cE e35 (λh40 e41=>?_) (λh40 e47=>?_)
   . refine kB 14 [] λ_=>?_;exact rm2 rfl rfl (Aj_ (λr:Ap_×Bool×RdR=> .tup [.agg (Ap_.pc r.1), .bool r.2.1]) e41 (ple rfl)) rfl rfl rfl (Nb_ (λr:Ap_×Bool×RdR=>RdR.pc r.2.2) e41 (ples rfl))
   have h43:=orl h40;have h44:=Di_ h43;have p45:=dt h44;have h46:=orr h40;refine kD 12 [] λ_=>?_;refine next ⟨(k1+1),r3.1⟩ rfl rfl ⟨rfl,trivial⟩ ⟨rfl,trivial⟩ ?_ ?_
   . (try simp only[]);omega
   exact⟨by (try simp only[]);omega,e47,by assumption⟩
 have e50:=C6_ (f:=λzz=>Ah_ r zz x1) hp19_2 (Gp_ (by omega)) (Ah_.eq_1 _ _);refine kA 8 ?_;refine cV e50 R39_ (Cr_ _) rfl λr4 hr51 e53 w52=>?_;refine q1 (qfA rfl underlying52 rfl ag35 sz35 rfl) rfl λw54=>?_;refine kB 5 [] λ_=>?_;exact rm2 rfl rfl (Aj_ (λr:Ap_×Bool×RdR=> .tup [.agg (Ap_.pc r.1), .bool r.2.1]) e53 (ple rfl)) rfl rfl rfl (Nb_ (λr:Ap_×Bool×RdR=>RdR.pc r.2.2) e53 (ples rfl))
theorem cb45:An_ prog 45:=Ad_ func45 (by kernel_rfl) (by kernel_rfl)
abbrev ty122:TI:=⟨.oth,1,8,[.val (.pointer none)]⟩
abbrev ty125v156:TI:=⟨.agg [(0,1),(1,1)],2,32,[.val (.pointer none), .val (.slice none 0 0)]⟩
def tbv156:Tb:=[(3,ty3),(4,ty4),(5,ty5),(9,ty9),(22,ty22),(26,ty26),(27,ty27),(35,ty35),(36,ty36),(43,ty43),(49,ty49),(52,ty52),(57,ty57),(60,ty60),(62,ty62),(66,ty66),(99,ty99),(122,ty122),(125,ty125v156)]
theorem A4_:tbB prog tbv156=true:=by kernel_rfl
theorem J5_ (text:Bs) (p:E_) (place:Int) (hp:PoOk p:=by assumption) (hk:0<=place/\place<p.places.length:=by omega):Fn prog gb 11 [.str text, .agg (E_.pc p), .int .i64 place] (.tup [.agg (Aa_.pc ((E9_ text p place).1)), .int .i64 ((E9_ text p place).2)]):=by
 refine fC func11 A4_ ntmps11 λw N H hG=>?_;have e0:=E9_.eq_1 text p place;generalize E9_ text p place=z at e0 ⊢;refine gm A4_ 10 [0,1] λB2=>?_;refine ef (ecallb 2 (Td_ _) rfl rfl λw4 b5=>?_);refine gm A4_ 8 [3] λB7=>?_;refine hinl [] A4_ func45 rfl ntmps45 cb45 rfl rfl rfl rfl λHc8 hHc8=>?_;refine gx A4_ 7 ?_;refine ef (ecallm (E2_ (⟨text,0⟩) _) rfl rfl rfl rfl rfl ?_);generalize hr10:Y_ (⟨text,0⟩) 1=r;intro w9 w9p;have e11:=e0.trans (Dh_ hr10.symm);have :=Bs_ (⟨text,0⟩) 1;have hz_13:EqN (⟨text,0⟩) 1 r:=(hr10.symm).symm
 (try simp only[hr10] at *)
 refine gx A4_ 4 ?_;refine O2_ (i:=3) (o:=1) (k:=29) (e:=66) 4 O_.pc rfl (by decide) rfl rfl ?_;refine loop (ι:=Nat×Int×In×(List O_)×Value) [0] [0,1] (λ⟨f,n,x,Gt_,u_deeds⟩=>[(2, .int .u64 n)]) (λ⟨f,n,x,Gt_,u_deeds⟩=>[(2, .box b5 211 (In.pc x)),(3, .box (B7 0) 125 [.own 2 b5 0, .osl 4]),(4, .arr u_deeds 29 66 O_.pc Gt_)]) (λ⟨f,n,x,Gt_,u_deeds⟩=>(n).toNat<f/\z=Ex_ text p place f n x Gt_/\(0<=n/\n<=255/\(Gt_.length:Int)+n<=255)/\DdsG x Gt_/\True) (λ⟨f,n,x,Gt_,u_deeds⟩=>f) ⟨((r.1).toNat+1),r.1,r.2,[],(.slice none 0 0)⟩ ⟨rfl,trivial⟩ ⟨rfl,rfl,rfl,trivial⟩ ?_ ?_
 . exact⟨Nat.lt_succ_self _,e11,⟨⟨by omega,by omega,by (try simp only[List.length_nil]);omega⟩,dds_nil _,trivial⟩⟩
 rintro⟨f,n,x,Gt_,u_deeds⟩ ⟨hp14_1,hp14_2,hp14_3⟩;obtain⟨hi1,hi2,hi3⟩:=hp14_3;obtain⟨f1,rfl⟩:∃ q,f=q+1:=⟨f-1,by omega⟩;have e_f1:=hp14_2.trans (Ex_.eq_2 _ _ _ _ _ _ _);refine gy A4_ 10 ?_;refine callgm rfl (λhc=>(Hn_ _)) rfl rfl rfl rfl ⟨(λhc=>hc),trivial⟩ rfl rfl λ_=>?_;refine gy A4_ 4 ?_;refine cE e_f1 (λh15 e20=>?_) (λh15 e53=>?_)
 . have h16:=bl h15;have p17:=dt h16;have h18:=br h15;have p19:=dt h18;refine gx A4_ 5 ?_;refine Hu_ (ι:=Nat) [0,2] [0,1,3,4] (λb21=>[(3, .own 5 b21 0)]) (λb21=>[(2, .box b5 211 [.str ((((Y_ (((X_ x 16)).2) 1)).2).s), .int .i64 ((((Y_ (((X_ x 16)).2) 1)).2).err)]),(5, .box b21 57 [.str (((X_ x 16)).1), .int .u8 (((Y_ (((X_ x 16)).2) 1)).1), .str []])]) (λb21=>PV.wf (.str (((X_ x 16)).1))/\PV.wfs (In.pc (((X_ x 16)).2))/\PV.wf (.int .u64 (((Y_ (((X_ x 16)).2) 1)).1))/\PV.wfs (In.pc (((Y_ (((X_ x 16)).2) 1)).2))) ?_ ?_
   . refine aN [2,5,6,7,8,9,10,11,12] 14 mixd ?_;refine gX A4_ [0,1,2,3,5,6,7,8] 6 ?_;refine veL 4 [12] (by kernel_rfl) ⟨⟨_,rfl,?_⟩,⟨_,rfl,?_⟩,trivial⟩
     . refine ej rfl (ecallm (Ho_ _ _) rfl rfl rfl rfl rfl λw22 w22p=>?_);have :=Cp_ x 16;refine veL 9 [12] (by kernel_rfl) ⟨⟨_,rfl,?_⟩,⟨_,rfl,?_⟩,trivial⟩
       . refine ej rfl (ecallm (E2_ _ _) rfl rfl rfl rfl rfl λw23 w23p=>?_);have :=Bs_ (((X_ x 16)).2) 1;refine veL 10 [12] (by kernel_rfl) ⟨⟨_,rfl,?_⟩,⟨_,rfl,?_⟩,trivial⟩
         . refine ej rfl (eqy (qconv A4_ rfl rfl rfl rfl (rg_u8 (by omega))) rfl λw24=>?_);refine gX A4_ [11] 2 ?_;refine vE 12 rfl (aL A4_ 5 λb25=>?_);refine vE 13 rfl (sA A4_ ?_);refine vD ?_;refine nX (b25) ?_ ⟨rfl,trivial⟩ ⟨rfl,rfl,trivial⟩;exact⟨w22,w22p,w23,w23p⟩
         refine ej rfl (aL A4_ 5 λb26=>?_);refine vE 10 rfl (eqy (qconv A4_ rfl rfl rfl rfl (rg_u8 (by omega))) rfl λw27=>?_);refine gX A4_ [11] 1 ?_;refine vE 13 rfl (sA A4_ ?_);refine vD ?_;refine nX (b26) ?_ ⟨rfl,trivial⟩ ⟨rfl,rfl,trivial⟩;exact⟨w22,w22p,w23,w23p⟩
       refine ej rfl (aL A4_ 5 λb28=>?_);refine vE 9 rfl (ecallm (E2_ _ _) rfl rfl rfl rfl rfl λw29 w29p=>?_);have :=Bs_ (((X_ x 16)).2) 1;refine vE 10 rfl (eqy (qconv A4_ rfl rfl rfl rfl (rg_u8 (by omega))) rfl λw30=>?_);refine gX A4_ [11] 1 ?_;refine vE 13 rfl (sA A4_ ?_);refine vD ?_;refine nX (b28) ?_ ⟨rfl,trivial⟩ ⟨rfl,rfl,trivial⟩;exact⟨w22,w22p,w29,w29p⟩
     refine ej rfl (aL A4_ 5 λb31=>?_);refine vE 4 rfl (ecallm (Ho_ _ _) rfl rfl rfl rfl rfl λw32 w32p=>?_);have :=Cp_ x 16;refine vE 9 rfl (ecallm (E2_ _ _) rfl rfl rfl rfl rfl λw33 w33p=>?_);have :=Bs_ (((X_ x 16)).2) 1;refine vE 10 rfl (eqy (qconv A4_ rfl rfl rfl rfl (rg_u8 (by omega))) rfl λw34=>?_);refine gX A4_ [11] 1 ?_;refine vE 13 rfl (sA A4_ ?_);refine vD ?_;refine nX (b31) ?_ ⟨rfl,trivial⟩ ⟨rfl,rfl,trivial⟩;exact⟨w32,w32p,w33,w33p⟩
   generalize hr35:X_ x 16=r1;generalize hr36:Y_ ((r1).2) 1=r2;rintro b21 ⟨w37,w38,w39,w40⟩;have e41:=e20.trans (Dh_ hr35.symm);have hr35:=hr35.symm;have :=Cp_ x 16;have hz_42:EqT x 16 r1:=(hr35).symm;have e43:=e41.trans (Dh_ hr36.symm);have hr36:=hr36.symm;have :=Bs_ ((r1).2) 1;have hz_44:EqN ((r1).2) 1 r2:=(hr36).symm;refine gx A4_ 7 ?_;refine ef (ecallm (Ho_ _ _) rfl rfl rfl rfl rfl ?_);generalize hr46:X_ ((r2).2) 16=r3;intro w45 w45p;have e47:=e43.trans (Dh_ hr46.symm);have :=Cp_ ((r2).2) 16;have hz_49:EqT ((r2).2) 16 r3:=(hr46.symm).symm
   (try simp only[hr46] at *)
   refine gm A4_ 4 [] λ_=>?_;refine aN [4,6,7,8,9,10,11] 12 mixd ?_;refine gX A4_ [0,1,2,3,4,5,6] 5 ?_;refine vE 7 rfl (bsl 6 O_.pc [(⟨0,0,(⟨(r1).1,(r2).1,r3.1⟩:W_),(⟨[],0,0,[]⟩:U_),(⟨[],[],false,[],[],false⟩:Q_),[],0,0,0,0,0,(⟨0,[],[],[],[],0,0⟩:Mail),[]⟩:O_)] A4_ rfl rfl rfl rfl rfl (λ_=>rfl) rfl (by decide) (by decide) rfl λu51=>?_);refine vE 8 rfl (app A4_ [(⟨0,0,(⟨(r1).1,(r2).1,r3.1⟩:W_),(⟨[],0,0,[]⟩:U_),(⟨[],[],false,[],[],false⟩:Q_),[],0,0,0,0,0,(⟨0,[],[],[],[],0,0⟩:Mail),[]⟩:O_)] rfl rfl rfl rfl rfl rfl rfl rfl rfl (src_o rfl rfl) (by first|omega|(simp;omega)) rfl λu52=>?_);refine gX A4_ [9,10] 1 ?_;refine vtp 11 rfl (by kernel_rfl) (by kernel_rfl) (Jc_ A4_ rfl rfl rfl rfl rfl rfl rfl rfl rfl ?_);refine vD ?_;have :=Go_ (n-1);refine gx A4_ 7 ?_;refine next ⟨f1,(IntKind.wrap .u64 (n-1)),r3.2,(Gt_++[(⟨0,0,(⟨(r1).1,(r2).1,r3.1⟩:W_),(⟨[],0,0,[]⟩:U_),(⟨[],[],false,[],[],false⟩:Q_),[],0,0,0,0,0,(⟨0,[],[],[],[],0,0⟩:Mail),[]⟩:O_)]),(u52)⟩ rfl rfl ⟨rfl,trivial⟩ ⟨rfl,rfl,rfl,trivial⟩ ?_ ?_
   . (try simp only[]);omega
   exact⟨(by (try simp only[]);rw[Ch_ (by omega) (by omega)];omega),e47,⟨⟨(by (try simp only[]);rw[Ch_ (by omega) (by omega)];omega),(by (try simp only[]);rw[Ch_ (by omega) (by omega)];omega),by (try simp only[List.length_append,List.length_cons,List.length_nil]);rw[Ch_ (by omega) (by omega)];omega⟩,dds_shop hi2 hz_42 hz_44 hz_49,trivial⟩⟩
 refine gx A4_ 11 ?_;refine ef (ecallm (E2_ _ _) rfl rfl rfl rfl rfl ?_);generalize hr55:Y_ x 1=r4;intro w54 w54p;have e56:=e53.trans (Dh_ hr55.symm);have :=Bs_ x 1;have hz_58:EqN x 1 r4:=(hr55.symm).symm
 (try simp only[hr55] at *)
 refine gx A4_ 4 ?_;refine loop (ι:=Nat×Int×In×(List O_)×Value) [0] [0,1] (λ⟨f2,n1,x1,deeds1,u_deeds1⟩=>[(4, .int .u64 n1)]) (λ⟨f2,n1,x1,deeds1,u_deeds1⟩=>[(2, .box b5 211 (In.pc x1)),(3, .box (B7 0) 125 [.own 2 b5 0, .osl 4]),(4, .arr u_deeds1 29 66 O_.pc deeds1)]) (λ⟨f2,n1,x1,deeds1,u_deeds1⟩=>(n1).toNat<f2/\z=C5_ text p place f2 n1 x1 deeds1/\(0<=n1/\n1<=255/\(deeds1.length:Int)+n1<=510)/\DdsG x1 deeds1/\True) (λ⟨f2,n1,x1,deeds1,u_deeds1⟩=>f2) ⟨((r4.1).toNat+1),r4.1,r4.2,Gt_,(u_deeds)⟩ ⟨rfl,trivial⟩ ⟨rfl,rfl,rfl,trivial⟩ ?_ ?_
 . exact⟨Nat.lt_succ_self _,e56,⟨⟨by omega,by omega,by omega⟩,Og_ hi2 hz_58,trivial⟩⟩
 rintro⟨f2,n1,x1,deeds1,u_deeds1⟩ ⟨hp59_1,hp59_2,hp59_3⟩;obtain⟨hi1,hi2,hi3⟩:=hp59_3;obtain⟨f3,rfl⟩:∃ q,f2=q+1:=⟨f2-1,by omega⟩;have e_f3:=hp59_2.trans (C5_.eq_2 _ _ _ _ _ _ _);refine gy A4_ 10 ?_;refine callgm rfl (λhc=>(Hn_ _)) rfl rfl rfl rfl ⟨(λhc=>hc),trivial⟩ rfl rfl λ_=>?_;refine gy A4_ 4 ?_;refine cE e_f3 (λh60 e65=>?_) (λh60 e115=>?_)
 . have h61:=bl h60;have p62:=dt h61;have h63:=br h60;have p64:=dt h63;refine gx A4_ 5 ?_;refine Hu_ (ι:=Nat) [0,4] [0,1,3,4] (λb66=>[(5, .own 5 b66 0)]) (λb66=>[(2, .box b5 211 [.str ((((Y_ (((X_ (((X_ x1 16)).2) 16)).2) 1)).2).s), .int .i64 ((((Y_ (((X_ (((X_ x1 16)).2) 16)).2) 1)).2).err)]),(5, .box b66 62 (Q_.pc (⟨((X_ x1 16)).1,((X_ (((X_ x1 16)).2) 16)).1,decide ((((Y_ (((X_ (((X_ x1 16)).2) 16)).2) 1)).1)=1),[],[],false⟩:Q_)))]) (λb66=>PV.wf (.str (((X_ x1 16)).1))/\PV.wfs (In.pc (((X_ x1 16)).2))/\PV.wf (.str (((X_ (((X_ x1 16)).2) 16)).1))/\PV.wfs (In.pc (((X_ (((X_ x1 16)).2) 16)).2))/\PV.wf (.int .u64 (((Y_ (((X_ (((X_ x1 16)).2) 16)).2) 1)).1))/\PV.wfs (In.pc (((Y_ (((X_ (((X_ x1 16)).2) 16)).2) 1)).2))) ?_ ?_
   . refine aN [2,5,6,7,8,9,10,11,12] 19 mixd ?_;refine gX A4_ [0,1,2,3,5,6,7,8,10,11,12,13] 7 ?_;refine veL 4 [17] (by kernel_rfl) ⟨⟨_,rfl,?_⟩,⟨_,rfl,?_⟩,trivial⟩
     . refine ej rfl (ecallm (Ho_ _ _) rfl rfl rfl rfl rfl λw67 w67p=>?_);have :=Cp_ x1 16;refine veL 9 [17] (by kernel_rfl) ⟨⟨_,rfl,?_⟩,⟨_,rfl,?_⟩,trivial⟩
       . refine ej rfl (ecallm (Ho_ _ _) rfl rfl rfl rfl rfl λw68 w68p=>?_);have :=Cp_ (((X_ x1 16)).2) 16;refine veL 14 [17] (by kernel_rfl) ⟨⟨_,rfl,?_⟩,⟨_,rfl,?_⟩,trivial⟩
         . refine ej rfl (ecallm (E2_ _ _) rfl rfl rfl rfl rfl λw69 w69p=>?_);have :=Bs_ (((X_ (((X_ x1 16)).2) 16)).2) 1;refine gX A4_ [15,16] 2 ?_;refine vE 17 rfl (aL A4_ 5 λb70=>?_);refine vE 18 rfl (sA A4_ ?_);refine vD ?_;refine nX (b70) ?_ ⟨rfl,trivial⟩ ⟨rfl,rfl,trivial⟩;exact⟨w67,w67p,w68,w68p,w69,w69p⟩
         refine ej rfl (aL A4_ 5 λb71=>?_);refine vE 14 rfl (ecallm (E2_ _ _) rfl rfl rfl rfl rfl λw72 w72p=>?_);have :=Bs_ (((X_ (((X_ x1 16)).2) 16)).2) 1;refine gX A4_ [15,16] 1 ?_;refine vE 18 rfl (sA A4_ ?_);refine vD ?_;refine nX (b71) ?_ ⟨rfl,trivial⟩ ⟨rfl,rfl,trivial⟩;exact⟨w67,w67p,w68,w68p,w72,w72p⟩
       refine ej rfl (aL A4_ 5 λb73=>?_);refine vE 9 rfl (ecallm (Ho_ _ _) rfl rfl rfl rfl rfl λw74 w74p=>?_);have :=Cp_ (((X_ x1 16)).2) 16;refine vE 14 rfl (ecallm (E2_ _ _) rfl rfl rfl rfl rfl λw75 w75p=>?_);have :=Bs_ (((X_ (((X_ x1 16)).2) 16)).2) 1;refine gX A4_ [15,16] 1 ?_;refine vE 18 rfl (sA A4_ ?_);refine vD ?_;refine nX (b73) ?_ ⟨rfl,trivial⟩ ⟨rfl,rfl,trivial⟩;exact⟨w67,w67p,w74,w74p,w75,w75p⟩
     refine ej rfl (aL A4_ 5 λb76=>?_);refine vE 4 rfl (ecallm (Ho_ _ _) rfl rfl rfl rfl rfl λw77 w77p=>?_);have :=Cp_ x1 16;refine vE 9 rfl (ecallm (Ho_ _ _) rfl rfl rfl rfl rfl λw78 w78p=>?_);have :=Cp_ (((X_ x1 16)).2) 16;refine vE 14 rfl (ecallm (E2_ _ _) rfl rfl rfl rfl rfl λw79 w79p=>?_);have :=Bs_ (((X_ (((X_ x1 16)).2) 16)).2) 1;refine gX A4_ [15,16] 1 ?_;refine vE 18 rfl (sA A4_ ?_);refine vD ?_;refine nX (b76) ?_ ⟨rfl,trivial⟩ ⟨rfl,rfl,trivial⟩;exact⟨w77,w77p,w78,w78p,w79,w79p⟩
   generalize hr80:X_ x1 16=r5;generalize hr81:X_ ((r5).2) 16=r6;generalize hr82:Y_ ((r6).2) 1=r7;rintro b66 ⟨w83,w84,w85,w86,w87,w88⟩;have e89:=e65.trans (Dh_ hr80.symm);have hr80:=hr80.symm;have :=Cp_ x1 16;have hz_90:EqT x1 16 r5:=(hr80).symm;have e91:=e89.trans (Dh_ hr81.symm);have hr81:=hr81.symm;have :=Cp_ ((r5).2) 16;have hz_92:EqT ((r5).2) 16 r6:=(hr81).symm;have e93:=e91.trans (Dh_ hr82.symm);have hr82:=hr82.symm;have :=Bs_ ((r6).2) 1;have hz_94:EqN ((r6).2) 1 r7:=(hr82).symm;refine gx A4_ 7 ?_;refine ef (ecallm (Ho_ _ _) rfl rfl rfl rfl rfl ?_);generalize hr96:X_ ((r7).2) 64=r8;intro w95 w95p;have e97:=e93.trans (Dh_ hr96.symm);have :=Cp_ ((r7).2) 64;have hz_99:EqT ((r7).2) 64 r8:=(hr96.symm).symm
   (try simp only[hr96] at *)
   refine gm A4_ 10 [] λ_=>?_;refine ef (ecallm (Xj_ _) rfl rfl rfl rfl rfl ?_);generalize hr102:Bt_ r8.2=r9;intro w101 w101p;have e103:=e97.trans (Dh_ hr102.symm);have :=Mx_ r8.2;have hz_105:EqH r8.2 r9:=(hr102.symm).symm
   (try simp only[hr102] at *)
   refine gm A4_ 10 [] λ_=>?_;refine ef (ecallm (E2_ _ _) rfl rfl rfl rfl rfl ?_);generalize hr108:Y_ r9.2 1=r10;intro w107 w107p;have e109:=e103.trans (Dh_ hr108.symm);have :=Bs_ r9.2 1;have hz_111:EqN r9.2 1 r10:=(hr108.symm).symm
   (try simp only[hr108] at *)
   refine gm A4_ 5 [] λ_=>?_;refine aN [4,6,7,8,9,10,11] 12 mixd ?_;refine gX A4_ [0,1,2,3,4,5,6] 5 ?_;refine vE 7 rfl (bsl 6 O_.pc [(⟨4,0,(⟨[],0,[]⟩:W_),(⟨[],0,0,[]⟩:U_),(⟨(r5).1,(r6).1,decide (((r7).1)=1),r8.1,r9.1,decide (r10.1=1)⟩:Q_),[],0,0,0,0,0,(⟨0,[],[],[],[],0,0⟩:Mail),[]⟩:O_)] A4_ rfl rfl rfl rfl rfl (λ_=>rfl) rfl (by decide) (by decide) rfl λu113=>?_);refine vE 8 rfl (app A4_ [(⟨4,0,(⟨[],0,[]⟩:W_),(⟨[],0,0,[]⟩:U_),(⟨(r5).1,(r6).1,decide (((r7).1)=1),r8.1,r9.1,decide (r10.1=1)⟩:Q_),[],0,0,0,0,0,(⟨0,[],[],[],[],0,0⟩:Mail),[]⟩:O_)] rfl rfl rfl rfl rfl rfl rfl rfl rfl (src_o rfl rfl) (by first|omega|(simp;omega)) rfl λu114=>?_);refine gX A4_ [9,10] 1 ?_;refine vtp 11 rfl (by kernel_rfl) (by kernel_rfl) (Jc_ A4_ rfl rfl rfl rfl rfl rfl rfl rfl rfl ?_);refine vD ?_;have :=Go_ (n1-1);refine gx A4_ 7 ?_;refine next ⟨f3,(IntKind.wrap .u64 (n1-1)),r10.2,(deeds1++[(⟨4,0,(⟨[],0,[]⟩:W_),(⟨[],0,0,[]⟩:U_),(⟨(r5).1,(r6).1,decide (((r7).1)=1),r8.1,r9.1,decide (r10.1=1)⟩:Q_),[],0,0,0,0,0,(⟨0,[],[],[],[],0,0⟩:Mail),[]⟩:O_)]),(u114)⟩ rfl rfl ⟨rfl,trivial⟩ ⟨rfl,rfl,rfl,trivial⟩ ?_ ?_
   . (try simp only[]);omega
   exact⟨(by (try simp only[]);rw[Ch_ (by omega) (by omega)];omega),e109,⟨⟨(by (try simp only[]);rw[Ch_ (by omega) (by omega)];omega),(by (try simp only[]);rw[Ch_ (by omega) (by omega)];omega),by (try simp only[List.length_append,List.length_cons,List.length_nil]);rw[Ch_ (by omega) (by omega)];omega⟩,dds_bind hi2 hz_90 hz_92 hz_94 hz_99 hz_105 hz_111,trivial⟩⟩
 refine gx A4_ 4 ?_;refine inln rfl rfl rfl trivial ?_;refine gx A4_ 3 ?_;refine Hu_ (ι:=Nat) [0,2,4,6,7,8] [0,1,3,4] (λb116=>[(9, .own 5 b116 0),(10, .int .i64 ((Gs_ ((Fg_ (((Y_ x1 4)).2) (IntKind.wrap .i64 (((Y_ x1 4)).1))).1) ((gt p.places ((place).toNat)).bytes)).2))]) (λb116=>[(2, .box b5 211 [.str (((Fg_ (((Y_ x1 4)).2) (IntKind.wrap .i64 (((Y_ x1 4)).1))).2).s), .int .i64 (((Fg_ (((Y_ x1 4)).2) (IntKind.wrap .i64 (((Y_ x1 4)).1))).2).err)]),(5, .box b116 43 (D_.pc ((Gs_ ((Fg_ (((Y_ x1 4)).2) (IntKind.wrap .i64 (((Y_ x1 4)).1))).1) ((gt p.places ((place).toNat)).bytes)).1)))]) (λb116=>PV.wf (.int .u64 (((Y_ x1 4)).1))/\PV.wfs (In.pc (((Y_ x1 4)).2))/\PV.wf (.str ((Fg_ (((Y_ x1 4)).2) (IntKind.wrap .i64 (((Y_ x1 4)).1))).1))/\PV.wfs (In.pc ((Fg_ (((Y_ x1 4)).2) (IntKind.wrap .i64 (((Y_ x1 4)).1))).2))/\PV.wf (.tup [.agg (D_.pc ((Gs_ ((Fg_ (((Y_ x1 4)).2) (IntKind.wrap .i64 (((Y_ x1 4)).1))).1) ((gt p.places ((place).toNat)).bytes)).1)), .int .i64 ((Gs_ ((Fg_ (((Y_ x1 4)).2) (IntKind.wrap .i64 (((Y_ x1 4)).1))).1) ((gt p.places ((place).toNat)).bytes)).2)])) ?_ ?_
 . refine aN [2,5,6,7,8,9,10,11,12] 24 mixd ?_;refine gX A4_ [0,1,2,3,4,5,6,7,11,12,13] 13 ?_;have hc117:=getG (xs:=p.places) (k:=(place).toNat) (by omega);refine vq 14 (qidx A4_ (place).toNat rfl rfl (by omega) hc117 rfl rfl rfl rfl) rfl (by kernel_rfl) rfl λw118=>?_;refine gX A4_ [15,16] 10 ?_;refine veL 8 [21] (by kernel_rfl) ⟨⟨_,rfl,?_⟩,⟨_,rfl,?_⟩,trivial⟩
   . refine ej rfl (ecallm (E2_ _ _) rfl rfl rfl rfl rfl λw119 w119p=>?_);have :=Bs_ x1 4;refine gX A4_ [9] 8 ?_;refine veL 10 [21] (by kernel_rfl) ⟨⟨_,rfl,?_⟩,⟨_,rfl,?_⟩,trivial⟩
     . refine ej rfl (ecallm (Uj_ _ _) rfl rfl rfl rfl rfl λw120 w120p=>?_);refine veL 17 [21] (by kernel_rfl) ⟨⟨_,rfl,?_⟩,⟨_,rfl,?_⟩,trivial⟩
       . refine ej rfl (eC (Mk_ _ _ (hb:=by exact Tg_ hp hk)) rfl λw121=>?_);refine gX A4_ [18,19,20] 3 ?_;refine vE 21 rfl (aL A4_ 5 λb122=>?_);refine vE 22 rfl (sA A4_ ?_);refine gX A4_ [23] 0 ?_;refine vD ?_;refine nX (b122) ?_ ⟨rfl,rfl,trivial⟩ ⟨rfl,rfl,trivial⟩;exact⟨w119,w119p,w120,w120p,w121⟩
       refine ej rfl (aL A4_ 5 λb123=>?_);refine vE 17 rfl (eC (Mk_ _ _ (hb:=by exact Tg_ hp hk)) rfl λw124=>?_);refine gX A4_ [18,19,20] 2 ?_;refine vE 22 rfl (sA A4_ ?_);refine gX A4_ [23] 0 ?_;refine vD ?_;refine nX (b123) ?_ ⟨rfl,rfl,trivial⟩ ⟨rfl,rfl,trivial⟩;exact⟨w119,w119p,w120,w120p,w124⟩
     refine ej rfl (aL A4_ 5 λb125=>?_);refine vE 10 rfl (ecallm (Uj_ _ _) rfl rfl rfl rfl rfl λw126 w126p=>?_);refine vE 17 rfl (eC (Mk_ _ _ (hb:=by exact Tg_ hp hk)) rfl λw127=>?_);refine gX A4_ [18,19,20] 2 ?_;refine vE 22 rfl (sA A4_ ?_);refine gX A4_ [23] 0 ?_;refine vD ?_;refine nX (b125) ?_ ⟨rfl,rfl,trivial⟩ ⟨rfl,rfl,trivial⟩;exact⟨w119,w119p,w126,w126p,w127⟩
   refine ej rfl (aL A4_ 5 λb128=>?_);refine vE 8 rfl (ecallm (E2_ _ _) rfl rfl rfl rfl rfl λw129 w129p=>?_);have :=Bs_ x1 4;refine gX A4_ [9] 7 ?_;refine vE 10 rfl (ecallm (Uj_ _ _) rfl rfl rfl rfl rfl λw130 w130p=>?_);refine vE 17 rfl (eC (Mk_ _ _ (hb:=by exact Tg_ hp hk)) rfl λw131=>?_);refine gX A4_ [18,19,20] 2 ?_;refine vE 22 rfl (sA A4_ ?_);refine gX A4_ [23] 0 ?_;refine vD ?_;refine nX (b128) ?_ ⟨rfl,rfl,trivial⟩ ⟨rfl,rfl,trivial⟩;exact⟨w129,w129p,w130,w130p,w131⟩
 generalize hr132:Y_ x1 4=r11;generalize hr133:Fg_ ((r11).2) (IntKind.wrap .i64 ((r11).1))=r12;generalize hr134:Gs_ (r12.1) ((gt p.places ((place).toNat)).bytes)=r13;rintro b116 ⟨w135,w136,w137,w138,w139⟩;have e140:=e115.trans (Dh_ hr132.symm);have hr132:=hr132.symm;have :=Bs_ x1 4;have hz_141:EqN x1 4 r11:=(hr132).symm;have e142:=e140.trans (Dh_ hr133.symm);have hr133:=hr133.symm;have hz_143:EqR ((r11).2) (IntKind.wrap .i64 ((r11).1)) r12:=(hr133).symm;have e144:=e142.trans (Dh_ hr134.symm);have hr134:=hr134.symm;have hkf:=kof_ok r12.1 ((gt p.places ((place).toNat)).bytes) (Tg_ hp hk)
 (try first|rw[<- hr134] at hkf|rw[hr134] at hkf)
 refine gx A4_ 2 ?_;refine Hu_ (ι:=Nat) [0,2,4,6,7,8,9,10] [0,1,3,4,5] (λb145=>[(11, .own 6 b145 0)]) (λb145=>[(2, .box b5 211 [.str (((Do_ (r12.2)).2).s), .int .i64 (((Do_ (r12.2)).2).err)]),(6, .box b145 52 (Aa_.pc (⟨(⟨[],[]⟩:Ap_),(r13.1),((Do_ (r12.2)).1),(⟨0,0,0,0,0,0,0,0,0,0,0,0,0,0,0,0⟩:A16_u64),(⟨(⟨0,0⟩:Av_),(⟨0,0⟩:Av_),(⟨0,0⟩:Av_),(⟨0,0⟩:Av_),(⟨0,0⟩:Av_),(⟨0,0⟩:Av_),(⟨0,0⟩:Av_),(⟨0,0⟩:Av_)⟩:A8_SpentR)⟩:Aa_)))]) (λb145=>PV.wf (.agg (B4_.pc ((Do_ (r12.2)).1)))/\PV.wfs (In.pc ((Do_ (r12.2)).2))) ?_ ?_
 . refine aN [2,6,7,8,9,10,11,12,13] 9 mixd ?_;refine gX A4_ [0,1,2,3,4] 4 ?_;refine veL 5 [7] (by kernel_rfl) ⟨⟨_,rfl,?_⟩,⟨_,rfl,?_⟩,trivial⟩
   . refine ej rfl (ecallm (Pp_ _) rfl rfl rfl rfl rfl λw146 w146p=>?_);refine gX A4_ [6] 2 ?_;refine vE 7 rfl (aL A4_ 6 λb147=>?_);refine vE 8 rfl (sA A4_ ?_);refine vD ?_;refine nX (b147) ?_ ⟨rfl,trivial⟩ ⟨rfl,rfl,trivial⟩;exact⟨w146,w146p⟩
   refine ej rfl (aL A4_ 6 λb148=>?_);refine vE 5 rfl (ecallm (Pp_ _) rfl rfl rfl rfl rfl λw149 w149p=>?_);refine gX A4_ [6] 1 ?_;refine vE 8 rfl (sA A4_ ?_);refine vD ?_;refine nX (b148) ?_ ⟨rfl,trivial⟩ ⟨rfl,rfl,trivial⟩;exact⟨w149,w149p⟩
 generalize hr150:Do_ (r12.2)=r14;rintro b145 ⟨w151,w152⟩;have e153:=e144.trans (Dh_ hr150.symm);have hr150:=hr150.symm;have hz_154:EqO (r12.2) r14:=(hr150).symm;have hnf:=nread_ok (r12.2)
 (try first|rw[<- hr150] at hnf|rw[hr150] at hnf)
 refine gx A4_ 8 ?_;refine loop (ι:=Nat×Nat×In×Aa_) [0,2,4,6,7,8,9,10,11] [0,1,3,4,5] (λ⟨f4,v,x2,x3⟩=>[(50, .int .i64 (v:Int))]) (λ⟨f4,v,x2,x3⟩=>[(2, .box b5 211 (In.pc x2)),(6, .box b145 52 (Aa_.pc x3))]) (λ⟨f4,v,x2,x3⟩=>16-v<f4/\z=Ey_ text p place deeds1 r13 f4 v x2 x3/\v<=16/\DdsG x2 deeds1/\PkOk x3) (λ⟨f4,v,x2,x3⟩=>f4) ⟨(16-0+1),0,(r14.2),(⟨(⟨[],[]⟩:Ap_),(r13.1),(r14.1),(⟨0,0,0,0,0,0,0,0,0,0,0,0,0,0,0,0⟩:A16_u64),(⟨(⟨0,0⟩:Av_),(⟨0,0⟩:Av_),(⟨0,0⟩:Av_),(⟨0,0⟩:Av_),(⟨0,0⟩:Av_),(⟨0,0⟩:Av_),(⟨0,0⟩:Av_),(⟨0,0⟩:Av_)⟩:A8_SpentR)⟩:Aa_)⟩ ⟨rfl,trivial⟩ ⟨rfl,rfl,trivial⟩ ?_ ?_
 . exact⟨Nat.lt_succ_self _,e153,⟨by simp,dds_notes (dds_raw (Og_ hi2 hz_141) hz_143) hz_154,⟨hkf.1,hkf.2,hnf.1,hnf.2⟩⟩⟩
 rintro⟨f4,v,x2,x3⟩ ⟨hp155_1,hp155_2,hp155_3⟩;obtain⟨hi1,hi2,hi3⟩:=hp155_3;obtain⟨f5,rfl⟩:∃ q,f4=q+1:=⟨f4-1,by omega⟩;have e_f5:=hp155_2.trans (Ey_.eq_2 _ _ _ _ _ _ _ _ _);refine gx A4_ 6 ?_;refine cD e_f5 (λp157 e158=>?_) (λp165 e166=>?_)
 . refine gx A4_ 16 ?_;refine ef (ecallm (E2_ _ _) rfl rfl rfl rfl rfl ?_);generalize hr160:Y_ x2 8=r15;intro w159 w159p;have e161:=e158.trans (Dh_ hr160.symm);have :=Bs_ x2 8;have hz_163:EqN x2 8 r15:=(hr160.symm).symm
   (try simp only[hr160] at *)
   refine gx A4_ 1 ?_;refine q1 (qaia v rfl rfl underlying47 sz36 rfl (by omega)) rfl λw164=>?_;refine ef (ostoreS1 (len:=16) (λq=>Aa_.pc (⟨x3.book,x3.G_,x3.notes,(A16.set x3.seen r15.1 q),x3.spent⟩:Aa_)) v 39 1 0 A4_ rfl rfl rfl rfl rfl rfl rfl (by omega) (bw16 rfl rfl rfl rfl rfl rfl rfl rfl rfl rfl rfl rfl rfl rfl rfl rfl) rfl (bw16 rfl rfl rfl rfl rfl rfl rfl rfl rfl rfl rfl rfl rfl rfl rfl rfl) rfl ?_);refine gy A4_ 7 ?_;refine next ⟨f5,(v+1),r15.2,(⟨x3.book,x3.G_,x3.notes,(A16.set x3.seen r15.1 v),x3.spent⟩:Aa_)⟩ rfl rfl ⟨rfl,trivial⟩ ⟨rfl,rfl,trivial⟩ ?_ ?_
   . (try simp only[]);omega
   exact⟨by (try simp only[]);omega,e161,⟨by (try simp only[]);omega,Og_ hi2 hz_163,hi3⟩⟩
 refine gx A4_ 12 ?_;refine loop (ι:=Nat×Int×Nat×In×Aa_) [0,2,4,6,7,8,9,11] [0,1,3,4,5] (λ⟨f6,e_1,v1,x4,x5⟩=>[(10, .int .i64 e_1),(62, .int .i64 (v1:Int))]) (λ⟨f6,e_1,v1,x4,x5⟩=>[(2, .box b5 211 (In.pc x4)),(6, .box b145 52 (Aa_.pc x5))]) (λ⟨f6,e_1,v1,x4,x5⟩=>8-v1<f6/\z=Du_ text p place deeds1 r13 f6 e_1 v1 x4 x5/\v1<=8/\DdsG x4 deeds1/\PkOk x5) (λ⟨f6,e_1,v1,x4,x5⟩=>f6) ⟨(8-0+1),r13.2,0,x2,x3⟩ ⟨rfl,rfl,trivial⟩ ⟨rfl,rfl,trivial⟩ ?_ ?_
 . exact⟨Nat.lt_succ_self _,e166,⟨by simp,hi2,hi3⟩⟩
 rintro⟨f6,e_1,v1,x4,x5⟩ ⟨hp167_1,hp167_2,hp167_3⟩;obtain⟨hi1,hi2,hi3⟩:=hp167_3;obtain⟨f7,rfl⟩:∃ q,f6=q+1:=⟨f6-1,by omega⟩;have e_f7:=hp167_2.trans (Du_.eq_2 _ _ _ _ _ _ _ _ _ _);refine gx A4_ 6 ?_;refine cD e_f7 (λp169 e170=>?_) (λp190 e191=>?_)
 . refine gx A4_ 11 ?_;refine aN [2,7,8,9,10,11,12] 16 mixd ?_;refine gX A4_ [0,1,2,3,4,6,7,8,9,13] 6 ?_;refine vE 5 rfl (ecallm (E2_ _ _) rfl rfl rfl rfl rfl ?_);generalize hr172:Y_ x4 8=r16;intro w171 w171p;have e173:=e170.trans (Dh_ hr172.symm);have :=Bs_ x4 8;have hz_175:EqN x4 8 r16:=(hr172.symm).symm
   (try simp only[hr172] at *)
   refine vE 10 rfl (ecallm (E2_ _ _) rfl rfl rfl rfl rfl ?_);generalize hr177:Y_ r16.2 1=r17;intro w176 w176p;have e178:=e173.trans (Dh_ hr177.symm);have :=Bs_ r16.2 1;have hz_180:EqN r16.2 1 r17:=(hr177.symm).symm
   (try simp only[hr177] at *)
   refine vE 11 rfl (eqy (qconv A4_ rfl rfl rfl rfl (Qt_ (by omega))) rfl λw181=>?_);refine gX A4_ [12] 2 ?_;refine vq 14 (qaia v1 rfl rfl underlying50 sz49 rfl (by omega)) rfl (by kernel_rfl) rfl λw182=>?_;refine vtp 15 rfl (by kernel_rfl) (by kernel_rfl) (Re_ (sz:=2) (len:=8) (λq=>Aa_.pc (⟨x5.book,x5.G_,x5.notes,x5.seen,(A8.set x5.spent (⟨r16.1,r17.1⟩:Av_) q)⟩:Aa_)) v1 55 2 0 A4_ rfl rfl rfl rfl rfl rfl rfl rfl rfl (by omega) (bw8 rfl rfl rfl rfl rfl rfl rfl rfl) rfl (bw8 rfl rfl rfl rfl rfl rfl rfl rfl) rfl ?_);refine vD ?_;refine gx A4_ 5 ?_;refine q1 (qaia v1 rfl rfl underlying50 sz49 rfl (by omega)) rfl λw183=>?_;refine gx A4_ 1 ?_;refine ef (oloadS1 (len:=8) (λq=> .int .i64 ((A8.get (A8.set x5.spent (⟨r16.1,r17.1⟩:Av_) v1) q).count)) v1 55 2 1 A4_ rfl rfl rfl rfl rfl rfl (by omega) (bw8 rfl rfl rfl rfl rfl rfl rfl rfl) rfl λw184=>?_);refine gx A4_ 3 ?_;refine cD e178 (λp186 e187=>?_) (λp188 e189=>?_)
   . refine gy A4_ 9 ?_;refine next ⟨f7,4,(v1+1),r17.2,(⟨x5.book,x5.G_,x5.notes,x5.seen,(A8.set x5.spent (⟨r16.1,r17.1⟩:Av_) v1)⟩:Aa_)⟩ rfl rfl ⟨rfl,rfl,trivial⟩ ⟨rfl,rfl,trivial⟩ ?_ ?_
     . (try simp only[]);omega
     exact⟨by (try simp only[]);omega,e187,⟨by (try simp only[]);omega,Og_ (Og_ hi2 hz_175) hz_180,hi3⟩⟩
   refine gy A4_ 7 ?_;refine next ⟨f7,e_1,(v1+1),r17.2,(⟨x5.book,x5.G_,x5.notes,x5.seen,(A8.set x5.spent (⟨r16.1,r17.1⟩:Av_) v1)⟩:Aa_)⟩ rfl rfl ⟨rfl,rfl,trivial⟩ ⟨rfl,rfl,trivial⟩ ?_ ?_
   . (try simp only[]);omega
   exact⟨by (try simp only[]);omega,e189,⟨by (try simp only[]);omega,Og_ (Og_ hi2 hz_175) hz_180,hi3⟩⟩
 refine gx A4_ 12 ?_;refine ef (ecallm (in_End _) rfl rfl rfl rfl rfl λw192 w192p=>?_);refine gy A4_ 7 ?_;refine cE e191 (λh193 e194=>?_) (λh193 e202=>?_)
 . refine gm A4_ 9 [] λ_=>?_;subst e194;exact qr2
 have h196:=orl h193;have h197:=Di_ h196;have p198:=dt h197;have hie:=inEnd_e (dt h197);have h199:=orr h193;have h200:=Di_ h199;have p201:=dt h200;refine gx A4_ 3 ?_;refine givec 4 rfl ?_;refine bx_junk (i:=3) 0 rfl ?_;refine Hu_ (ι:=Nat) [0,6,7,11] [0,1,2,5,6] (λb203=>[(14, .own 4 b203 0),(15, .bool ((As_ (⟨(),deeds1⟩:RdR) (Am_ p place) (A0_ (r13.1))).2.1))]) (λb203=>[(3, .box (B7 0) 125 [.junk, .sl O_.pc (((As_ (⟨(),deeds1⟩:RdR) (Am_ p place) (A0_ (r13.1))).2.2).Gt_)]),(4, .box b203 35 [.sl W_.pc (((As_ (⟨(),deeds1⟩:RdR) (Am_ p place) (A0_ (r13.1))).1).Ba_), .sl Q_.pc (((As_ (⟨(),deeds1⟩:RdR) (Am_ p place) (A0_ (r13.1))).1).binds)])]) (λb203=>PV.wf (.agg (C_.pc (Am_ p place)))/\PV.wf (.sl U_.pc (A0_ (r13.1)))/\PV.wf (.tup [.agg (Ap_.pc ((As_ (⟨(),deeds1⟩:RdR) (Am_ p place) (A0_ (r13.1))).1)), .bool ((As_ (⟨(),deeds1⟩:RdR) (Am_ p place) (A0_ (r13.1))).2.1)])/\PV.wfs (RdR.pc ((As_ (⟨(),deeds1⟩:RdR) (Am_ p place) (A0_ (r13.1))).2.2))) ?_ ?_
 . refine aN [3,4,7,8,9,10,11,12,13] 13 mixd ?_;refine gX A4_ [0,1,2,4] 9 ?_;refine veL 3 [10] (by kernel_rfl) ⟨⟨_,rfl,?_⟩,⟨_,rfl,?_⟩,trivial⟩
   . refine ej rfl (eC (Js_ p _) rfl λw204=>?_);have hB204:=Ly_ (p:=p) (k:=place) (by first|assumption|exact Nc_ (by decide +kernel)) (by first|omega|(simp;done)|decide +kernel);refine veL 5 [10] (by kernel_rfl) ⟨⟨_,rfl,?_⟩,⟨_,rfl,?_⟩,trivial⟩
     . refine ej rfl (eC (Hs_ (r13.1) (hs:=by exact Nat.le_trans hkf.1.1.1 (by decide))) rfl λw206=>?_);refine veL 6 [10] (by kernel_rfl) ⟨⟨_,rfl,?_⟩,⟨_,rfl,?_⟩,trivial⟩
       . refine ej rfl (ecallm (Gr_ (⟨(),deeds1⟩:RdR) (Am_ p place) _ (hs:=by first|assumption|exact Ly_ hp hk) (hd:=by exact hi2 hie)) rfl rfl rfl rfl rfl λw207 w207p=>?_);refine gX A4_ [7,8,9] 3 ?_;refine vE 10 rfl (aL A4_ 4 λb208=>?_);refine vE 11 rfl (sA A4_ ?_);refine gX A4_ [12] 0 ?_;refine vD ?_;refine nX (b208) ?_ ⟨rfl,rfl,trivial⟩ ⟨rfl,rfl,trivial⟩;exact⟨w204,w206,w207,w207p⟩
       refine ej rfl (aL A4_ 4 λb209=>?_);refine vE 6 rfl (ecallm (Gr_ (⟨(),deeds1⟩:RdR) (Am_ p place) _ (hs:=by first|assumption|exact Ly_ hp hk) (hd:=by exact hi2 hie)) rfl rfl rfl rfl rfl λw210 w210p=>?_);refine gX A4_ [7,8,9] 2 ?_;refine vE 11 rfl (sA A4_ ?_);refine gX A4_ [12] 0 ?_;refine vD ?_;refine nX (b209) ?_ ⟨rfl,rfl,trivial⟩ ⟨rfl,rfl,trivial⟩;exact⟨w204,w206,w210,w210p⟩
     refine ej rfl (aL A4_ 4 λb211=>?_);refine vE 5 rfl (eC (Hs_ (r13.1) (hs:=by exact Nat.le_trans hkf.1.1.1 (by decide))) rfl λw212=>?_);refine vE 6 rfl (ecallm (Gr_ (⟨(),deeds1⟩:RdR) (Am_ p place) _ (hs:=by first|assumption|exact Ly_ hp hk) (hd:=by exact hi2 hie)) rfl rfl rfl rfl rfl λw213 w213p=>?_);refine gX A4_ [7,8,9] 2 ?_;refine vE 11 rfl (sA A4_ ?_);refine gX A4_ [12] 0 ?_;refine vD ?_;refine nX (b211) ?_ ⟨rfl,rfl,trivial⟩ ⟨rfl,rfl,trivial⟩;exact⟨w204,w212,w213,w213p⟩
   refine ej rfl (aL A4_ 4 λb214=>?_);refine vE 3 rfl (eC (Js_ p _) rfl λw215=>?_);have hB215:=Ly_ (p:=p) (k:=place) (by first|assumption|exact Nc_ (by decide +kernel)) (by first|omega|(simp;done)|decide +kernel);refine vE 5 rfl (eC (Hs_ (r13.1) (hs:=by exact Nat.le_trans hkf.1.1.1 (by decide))) rfl λw217=>?_);refine vE 6 rfl (ecallm (Gr_ (⟨(),deeds1⟩:RdR) (Am_ p place) _ (hs:=by first|assumption|exact Ly_ hp hk) (hd:=by exact hi2 hie)) rfl rfl rfl rfl rfl λw218 w218p=>?_);refine gX A4_ [7,8,9] 2 ?_;refine vE 11 rfl (sA A4_ ?_);refine gX A4_ [12] 0 ?_;refine vD ?_;refine nX (b214) ?_ ⟨rfl,rfl,trivial⟩ ⟨rfl,rfl,trivial⟩;exact⟨w215,w217,w218,w218p⟩
 generalize hr219:Am_ p place=r18;generalize hr220:A0_ (r13.1)=r19;generalize hr221:As_ (⟨(),deeds1⟩:RdR) r18 r19=r20;rintro b203 ⟨w222,w223,w224,w225⟩;have e226:=e202.trans (Dh_ hr219.symm);have hr219:=hr219.symm;have hA226:=Ly_ (p:=p) (k:=place) (by first|assumption|exact Nc_ (by decide +kernel)) (by first|omega|(simp;done)|decide +kernel)
 (try rw[<- hr219] at hA226)
 have hnS:=Ly_ hp hk
 (try first|rw[<- hr219] at hnS|rw[hr219] at hnS)
 have hnB:=newB p place
 (try first|rw[<- hr219] at hnB|rw[hr219] at hnB)
 have e228:=e226.trans (Dh_ hr220.symm);have hr220:=hr220.symm;have e229:=e228.trans (Dh_ hr221.symm);have hr221:=hr221.symm;have hbf:=book_ok (⟨(),deeds1⟩:RdR) r18 r19 hnS hnB (hi2 hie)
 (try first|rw[<- hr221] at hbf|rw[hr221] at hbf)
 refine gm A4_ 15 [] λ_=>?_;refine callg rfl (λhc=>(Ha_ (⟨(r20.1),x5.G_,x5.notes,x5.seen,x5.spent⟩:Aa_) (hx:=by exact imOk_of hbf hi3))) rfl ⟨(λhc=>hc),trivial⟩ rfl rfl λ_=>?_;refine gy A4_ 5 ?_;refine cE e229 (λh231 e232=>?_) (λh231 e239=>?_)
 . refine gm A4_ 9 [] λ_=>?_;subst e232;exact qr2
 have h234:=orl h231;have h235:=Di_ h234;have h236:=orr h231;have h237:=Di_ h236;have p238:=dt h237;refine gm A4_ 10 [] λ_=>?_;subst e239;exact qr2
abbrev R41_:(Aa_×Int)->PV:=λr=> .tup [.agg (Aa_.pc r.1), .int .i64 r.2]
theorem Yc_:Fn prog gb 5 [] (.bool (Pe_)):=by
 refine kG func5 ntmps5 λw N H hG=>?_;have e0:=Pe_.eq_1;refine kA 8 ?_;refine ef (bsl 0 A5_.pc [(⟨[108,111,119],(⟨0,0⟩:C4_),500,1⟩:A5_)] F_ rfl rfl rfl rfl rfl (λ_=>rfl) rfl (by decide) (by decide) rfl λu1=>?_);refine ef (bsl 1 i64c [0] F_ rfl rfl rfl rfl rfl (λ_=>rfl) rfl (by decide) (by decide) rfl λu2=>?_);refine kB 3 [2] λB4=>?_;refine bx_tie (i:=2) (o:=2) 0 rfl rfl rfl ?_;refine bx_tie (i:=2) (o:=3) 1 rfl rfl rfl ?_;refine kA 3 ?_;refine givec 0 rfl ?_;refine givec 1 rfl ?_;refine kA 2 ?_;refine cV e0 R21_ (Js_ (⟨4,1,[(⟨[108,111,119],(⟨0,0⟩:C4_),500,1⟩:A5_)],[0],[]⟩:E_) _ (hp:=by first|assumption|exact Nc_ (by decide +kernel)) (hk:=by first|omega|decide +kernel)) rfl λr hr5 e7 w6=>?_;have hA7:=Ly_ (p:=(⟨4,1,[(⟨[108,111,119],(⟨0,0⟩:C4_),500,1⟩:A5_)],[0],[]⟩:E_)) (k:=0) (by first|assumption|exact Nc_ (by decide +kernel)) (by first|omega|(simp;done)|decide +kernel)
 (try rw[<- hr5] at hA7)
 have hnS:=Ly_ (p:=(⟨4,1,[(⟨[108,111,119],(⟨0,0⟩:C4_),500,1⟩:A5_)],[0],[]⟩:E_)) (k:=0) (Nc_ (by decide +kernel)) (by decide +kernel)
 (try first|rw[<- hr5] at hnS|rw[hr5] at hnS)
 have hnB:=newB (⟨4,1,[(⟨[108,111,119],(⟨0,0⟩:C4_),500,1⟩:A5_)],[0],[]⟩:E_) 0
 (try first|rw[<- hr5] at hnB|rw[hr5] at hnB)
 refine cV e7 R39_ (Cr_ _) rfl λr1 hr9 e11 w10=>?_;have hix:=im_st hnS hnB
 (try first|rw[<- hr9] at hix|rw[hr9] at hix)
 refine cV e11 R33_ (Ha_ _ (hx:=by exact hix)) rfl λr2 hr12 e14 w13=>?_;refine kA 7 ?_;refine cV e14 R41_ (J5_ _ (⟨4,1,[(⟨[108,111,119],(⟨0,0⟩:C4_),500,1⟩:A5_)],[0],[]⟩:E_) _ (hp:=by exact Nc_ (by decide +kernel)) (hk:=by first|omega|decide +kernel)) rfl λr3 hr15 e17 w16=>?_;refine kB 10 [0] λB19=>?_;refine call Ya_ rfl rfl λw20=>?_;refine kC 12 ?_;refine callg rfl (λhc=>(Os_ _)) rfl ⟨(λhc=>hc),trivial⟩ rfl rfl λ_=>?_;refine kC 6 ?_;exact rt1 rfl rfl (Aj_ (λr:Bool=> .bool r) e17 (ple rfl))
theorem Tm_ (a:K_) (b:K_):Fn prog gb 63 [.agg (K_.pc a), .agg (K_.pc b)] (.bool (La_ a b)):=by
 refine kG func63 ntmps63 λw N H hG=>?_;have e0:=La_.eq_1 a b;refine kB 13 [0,1] λB2=>?_;refine call (r13_Same _ _) rfl rfl λw4=>?_;refine kC 18 ?_;exact rt1 rfl rfl (Aj_ (λr:Bool=> .bool r) e0 (ple rfl))
theorem Qg_ (a:Ar_) (b:Ar_):Fn prog gb 15 [.agg (Ar_.pc a), .agg (Ar_.pc b)] (.bool (Ib_ a b)):=by
 refine kG func15 ntmps15 λw N H hG=>?_;have e0:=Ib_.eq_1 a b;refine kB 13 [0,1] λB2=>?_;refine call (Tm_ _ _) rfl rfl λw4=>?_;refine kC 18 ?_;exact rt1 rfl rfl (Aj_ (λr:Bool=> .bool r) e0 (ple rfl))
theorem Pc_ (r:Ar_):Fn prog gb 16 [.agg (Ar_.pc r)] (.agg (Ar_.pc (Hv_ r))):=by
 refine kG func16 ntmps16 λw N H hG=>?_;have e0:=Hv_.eq_1 r;refine kB 19 [0,1] λB2=>?_;exact rt1 rfl rfl (Aj_ (λr:Ar_=> .agg (Ar_.pc r)) e0 (ple rfl))
theorem l24_ImageGoes_ok (p:E_) (place:Int) (l:List O_) (more:List O_):Fn prog gb 3 [.agg (E_.pc p), .int .u8 place, .sl O_.pc l, .sl O_.pc more] (.bool (Iq_ p place l more)):=by
 refine kG func3 ntmps3 λw N H hG=>?_;have e0:=Iq_.eq_1 p place l more;generalize Iq_ p place l more=z at e0 ⊢;refine kB 9 [0] λB2=>?_;refine call Yc_ rfl rfl λw3=>?_;refine kA 3 ?_;refine cE e0 (λh4 e6=>?_) (λh4 e8=>?_)
 . have h5:=Ek_ h4;refine kA 7 ?_;subst e6;exact qr1
 have h7:=Di_ h4;refine kA 6 ?_;refine call (l05_May_ok _) rfl rfl λw9=>?_;refine kA 3 ?_;refine callg rfl (λhc=>(Qq_ _)) rfl ⟨(λhc=>hc),trivial⟩ rfl rfl λ_=>?_;refine kC 4 ?_;refine callg rfl (λhc=>(Qq_ _)) rfl ⟨(λhc=>hc),trivial⟩ rfl rfl λ_=>?_;refine kC 4 ?_;refine cE e8 (λh10 e11=>?_) (λh10 e21=>?_)
 . refine kA 7 ?_;subst e11;exact qr1
 have h12:=orl h10;have h13:=orl h12;have h14:=Di_ h13;obtain⟨hpo,hpl0,hpl1,hsl0,hsl1,hgl,hpn⟩:=l05_may2 h14;have h15:=orr h12;have h16:=Di_ h15;have hb16:=Z9_ h16
 (try obtain⟨hb16a,hb16b⟩:=hb16)
 have h18:=orr h10;have h19:=Di_ h18;have hb19:=Z9_ h19
 (try obtain⟨hb19a,hb19b⟩:=hb19)
 refine kA 6 ?_;refine cV e21 R0_ (l23_At_ok _ _) rfl λr hr22 e24 w23=>?_;have hA24:=at_r p place (by omega)
 (try rw[<- hr22] at hA24)
 have hat:0<=r/\r<p.places.length:=by rw[hr22];exact at_r p place (by omega)
 refine kA 7 ?_;refine cV e24 R21_ (Js_ _ _ (hp:=by first|assumption|exact Nc_ (by decide +kernel)) (hk:=by first|omega|decide +kernel)) rfl λr1 hr26 e28 w27=>?_;have hA28:=Ly_ (p:=p) (k:=r) (by first|assumption|exact Nc_ (by decide +kernel)) (by first|omega|(simp;done)|decide +kernel)
 (try rw[<- hr26] at hA28)
 have hrt:Rt p r r1:=by first|rw[hr26];exact rt_new hpo hat (Wm_ w.1)|rw[<- hr26];exact rt_new hpo hat (Wm_ w.1)
 refine kB 13 [1] λB31=>?_;refine loop (ι:=Nat×C_) [3,4,8,9,10,45,46] [0] (λ⟨k,x⟩=>[(47, .int .i64 (k:Int))]) (λ⟨k,x⟩=>[(1, .box (B31 0) 54 (C_.pc x))]) (λ⟨k,x⟩=>k<=l.length/\z=D5_ p more r (l.drop k) x/\Rt p r x/\StOk x) (λ⟨k,x⟩=>l.length-k) ⟨0,r1⟩ ⟨rfl,trivial⟩ ⟨rfl,trivial⟩ ?_ ?_
 . exact⟨Nat.zero_le _,e28,⟨hrt,hrt.ok⟩⟩
 rintro⟨k,x⟩ ⟨hp32_1,hp32_2,hp32_3⟩;obtain⟨hi1,hi2⟩:=hp32_3;have hrt_x:=hi1;have hst_x:=hrt_x.ok;refine kA 6 ?_;refine cn rfl (λp34=>?_) λp45=>?_
 . have e35:=C6_ (f:=λzz=>D5_ p more r zz x) hp32_2 (Gb_ (by omega)) (D5_.eq_2 _ _ _ _ _ _);have hc36:=getG (xs:=l) (k:=k) (by omega);have hy_hc36:=dd_mem (by assumption) hc36;have hf_hc36:=deed_f (by first|exact w.1|exact w.2.1|exact w.2.2.1|exact w.2.2.2.1|exact w.2.2.2) hc36;have hx_hc36:=hf_hc36.2.2.1;refine kA 6 ?_;refine kI k hc36 λw37=>?_;refine kB 8 [2] λB39=>?_;refine cV e35 R22_ (Er_ _ _ (hs:=by exact hst_x)) rfl λr2 hr40 e42 w41=>?_;have hA42:=Ru_ (s:=x) (d:=(gt l k)) (by assumption) (by first|assumption|exact dd1 (by decide +kernel)|exact⟨by first|(simp;done)|omega,by first|(simp;done)|omega,by first|(simp;done)|((try dsimp only);omega),by first|(simp;done)|((try dsimp only);omega)⟩) (by first|assumption|omega|(dsimp only;omega)|decide +kernel)
   (try rw[<- hr40] at hA42)
   have hrdo_r2:=rt_do (p:=p) (k:=r) (s:=x) (d:=(gt l k)) hrt_x hy_hc36 hf_hc36
   (try first|rw[<- hr40] at hrdo_r2|rw[hr40] at hrdo_r2)
   refine kD 12 [] λ_=>?_;refine nY ⟨(k+1),r2.1⟩ ⟨rfl,trivial⟩ ⟨rfl,trivial⟩ ?_ ?_
   . (try simp only[]);omega
   exact⟨by (try simp only[]);omega,e42,⟨hrdo_r2,hrdo_r2.ok⟩⟩
 have e46:=C6_ (f:=λzz=>D5_ p more r zz x) hp32_2 (Gp_ (by omega)) (D5_.eq_1 _ _ _ _);refine kA 6 ?_;refine Hu_ (ι:=Nat) [3,4,8,9,10] [0,1] (λb47=>[(13, .own 2 b47 0),(14, .int .i64 ((E9_ (Ca_ (J_ x)) p r).2))]) (λb47=>[(2, .box b47 52 (Aa_.pc ((E9_ (Ca_ (J_ x)) p r).1)))]) (λb47=>PV.wf (.agg (Aa_.pc (J_ x)))/\PV.wf (.str (Ca_ (J_ x)))/\PV.wf (.tup [.agg (Aa_.pc ((E9_ (Ca_ (J_ x)) p r).1)), .int .i64 ((E9_ (Ca_ (J_ x)) p r).2)])) ?_ ?_
 . refine aN [2,3,4,5,6,7,8,9] 12 mixd ?_;refine kE [0,3,4] 9 ?_;refine veL 1 [9] (by kernel_rfl) ⟨⟨_,rfl,?_⟩,⟨_,rfl,?_⟩,trivial⟩
   . refine ej rfl (eC (Cr_ x) rfl λw48=>?_);refine vC 2 rfl (Ha_ (J_ x) (hx:=by exact rt_im hrt_x rfl)) rfl λw49=>?_;refine veL 5 [9] (by kernel_rfl) ⟨⟨_,rfl,?_⟩,⟨_,rfl,?_⟩,trivial⟩
     . refine ej rfl (eC (J5_ _ p _ (hp:=by exact hpo) (hk:=by exact hat)) rfl λw50=>?_);refine kE [6,7,8] 3 ?_;refine vE 9 rfl (aL F_ 2 λb51=>?_);refine vE 10 rfl (sA F_ ?_);refine kE [11] 0 ?_;refine vD ?_;refine nZ (b51) ?_ ⟨rfl,rfl,trivial⟩ ⟨rfl,trivial⟩;exact⟨w48,w49,w50⟩
     refine ej rfl (aL F_ 2 λb52=>?_);refine vE 5 rfl (eC (J5_ _ p _ (hp:=by exact hpo) (hk:=by exact hat)) rfl λw53=>?_);refine kE [6,7,8] 2 ?_;refine vE 10 rfl (sA F_ ?_);refine kE [11] 0 ?_;refine vD ?_;refine nZ (b52) ?_ ⟨rfl,rfl,trivial⟩ ⟨rfl,trivial⟩;exact⟨w48,w49,w53⟩
   refine ej rfl (aL F_ 2 λb54=>?_);refine vE 1 rfl (eC (Cr_ x) rfl λw55=>?_);refine vC 2 rfl (Ha_ (J_ x) (hx:=by exact rt_im hrt_x rfl)) rfl λw56=>?_;refine vE 5 rfl (eC (J5_ _ p _ (hp:=by exact hpo) (hk:=by exact hat)) rfl λw57=>?_);refine kE [6,7,8] 2 ?_;refine vE 10 rfl (sA F_ ?_);refine kE [11] 0 ?_;refine vD ?_;refine nZ (b54) ?_ ⟨rfl,rfl,trivial⟩ ⟨rfl,trivial⟩;exact⟨w55,w56,w57⟩
 generalize hr58:J_ x=r3;generalize hr59:Ca_ r3=r4;generalize hr60:E9_ r4 p r=r5;rintro b47 ⟨w61,w62,w63⟩;have e64:=e46.trans (Dh_ hr58.symm);have hr58:=hr58.symm;have him_r3:ImOk r3:=rt_im (s:=x) hrt_x (by first|exact hr58|exact Eq.symm hr58);have e65:=e64.trans (Dh_ hr59.symm);have hr59:=hr59.symm;have e66:=e65.trans (Dh_ hr60.symm);have hr60:=hr60.symm;have hbk:r5=(r3,0):=rt_back hrt_x (by first|exact hr58|exact Eq.symm hr58) (by first|exact hr59|exact Eq.symm hr59) (by first|exact hr60|exact Eq.symm hr60);refine kA 8 ?_;refine cN e66 (λp69 e70=>?_) (λp72 e73=>?_)
 . refine kA 7 ?_;subst e70;exact qr1
 refine kA 7 ?_;refine cV e73 R21_ (P0_ _ _ _ (hp:=by exact hpo)) rfl λr6 hr74 e76 w75=>?_;have hgo:Rt p r r6:=rt_goes hrt_x (by first|exact hr58|exact Eq.symm hr58) hbk (by first|exact hr74|exact Eq.symm hr74);refine kB 13 [3] λB78=>?_;refine loop (ι:=Nat×C_×C_) [10,15,74,75] [0,2] (λ⟨k1,x1,x2⟩=>[(76, .int .i64 (k1:Int))]) (λ⟨k1,x1,x2⟩=>[(1, .box (B31 0) 54 (C_.pc x1)),(3, .box (B78 0) 54 (C_.pc x2))]) (λ⟨k1,x1,x2⟩=>k1<=more.length/\z=D6_ (more.drop k1) x1 x2/\(Rt p r x1/\StOk x1)/\Rt p r x2/\StOk x2) (λ⟨k1,x1,x2⟩=>more.length-k1) ⟨0,x,r6⟩ ⟨rfl,trivial⟩ ⟨rfl,rfl,trivial⟩ ?_ ?_
 . exact⟨Nat.zero_le _,e76,⟨⟨hi1,hi2⟩,hgo,hgo.ok⟩⟩
 rintro⟨k1,x1,x2⟩ ⟨hp79_1,hp79_2,hp79_3⟩;obtain⟨⟨hj1,hj2⟩,hj3,hj4⟩:=hp79_3;have hrt_x1:=hj1;have hst_x1:=hrt_x1.ok;have hrt_x2:=hj3;have hst_x2:=hrt_x2.ok;refine kA 6 ?_;refine cn rfl (λp81=>?_) λp112=>?_
 . have e82:=C6_ (f:=λzz=>D6_ zz x1 x2) hp79_2 (Gb_ (by omega)) (D6_.eq_2 _ _ _ _);have hc83:=getG (xs:=more) (k:=k1) (by omega);have hy_hc83:=dd_mem (by assumption) hc83;have hf_hc83:=deed_f (by first|exact w.1|exact w.2.1|exact w.2.2.1|exact w.2.2.2.1|exact w.2.2.2) hc83;have hx_hc83:=hf_hc83.2.2.1;refine kA 6 ?_;refine kI k1 hc83 λw84=>?_;refine kB 9 [4] λB86=>?_;refine cV e82 R22_ (Er_ _ _ (hs:=by exact hst_x1)) rfl λr7 hr87 e89 w88=>?_;have hA89:=Ru_ (s:=x1) (d:=(gt more k1)) (by assumption) (by first|assumption|exact dd1 (by decide +kernel)|exact⟨by first|(simp;done)|omega,by first|(simp;done)|omega,by first|(simp;done)|((try dsimp only);omega),by first|(simp;done)|((try dsimp only);omega)⟩) (by first|assumption|omega|(dsimp only;omega)|decide +kernel)
   (try rw[<- hr87] at hA89)
   have hrdo_r7:=rt_do (p:=p) (k:=r) (s:=x1) (d:=(gt more k1)) hrt_x1 hy_hc83 hf_hc83
   (try first|rw[<- hr87] at hrdo_r7|rw[hr87] at hrdo_r7)
   refine kB 15 [5,6] λB92=>?_;refine cV e89 R22_ (Er_ _ _ (hs:=by exact hst_x2)) rfl λr8 hr94 e96 w95=>?_;have hA96:=Ru_ (s:=x2) (d:=(gt more k1)) (by assumption) (by first|assumption|exact dd1 (by decide +kernel)|exact⟨by first|(simp;done)|omega,by first|(simp;done)|omega,by first|(simp;done)|((try dsimp only);omega),by first|(simp;done)|((try dsimp only);omega)⟩) (by first|assumption|omega|(dsimp only;omega)|decide +kernel)
   (try rw[<- hr94] at hA96)
   have hrdo_r8:=rt_do (p:=p) (k:=r) (s:=x2) (d:=(gt more k1)) hrt_x2 hy_hc83 hf_hc83
   (try first|rw[<- hr94] at hrdo_r8|rw[hr94] at hrdo_r8)
   refine kB 13 [7,8] λB99=>?_;refine aN [9,10,11,12,13,14] 19 mixd ?_;refine kE [0,1,2,3,4,6] 13 ?_;refine vE 5 rfl (ecallg rfl (λhc=>(Pc_ r7.2.1)) rfl ⟨(λhc=>hc),trivial⟩ rfl rfl λ_=>?_);refine vE 7 rfl (ecallg rfl (λhc=>(Pc_ r8.2.1)) rfl ⟨(λhc=>hc),trivial⟩ rfl rfl λ_=>?_);refine vcallg 8 rfl (by kernel_rfl) rfl (λhc=>(Qg_ (Hv_ r7.2.1) (Hv_ r8.2.1))) rfl rfl ⟨(λhc=>hc),(λhc=>hc),trivial⟩ rfl λ_=>?_;refine kF [9,10,11,12,14] 5 ?_;refine vE 13 rfl (ecallg rfl (λhc=>(Cr_ r7.1)) rfl ⟨(λhc=>hc),trivial⟩ rfl rfl λ_=>?_);refine vE 15 rfl (ecallg rfl (λhc=>(Cr_ r8.1)) rfl ⟨(λhc=>hc),trivial⟩ rfl rfl λ_=>?_);refine vcallg 16 rfl (by kernel_rfl) rfl (λhc=>(Wv_ (J_ r7.1) (J_ r8.1))) rfl rfl ⟨(λhc=>hc),(λhc=>hc),trivial⟩ rfl λ_=>?_;refine kF [17,18] 0 ?_;refine vD ?_;refine kA 1 ?_;refine cE e96 (λh101 e102=>?_) (λh101 e111=>?_)
   . refine kA 12 ?_;subst e102;exact qr1
   have h103:=orl h101;have h104:=orl h103;have h105:=Di_ h104;have p106:=dt h105;have h107:=orr h103;have h108:=Di_ h107;have h109:=orr h101;have h110:=Di_ h109;refine kA 2 ?_;refine aN [1,3,9,10,11,12,13,14] 4 mixd ?_;refine kE [0,1] 2 ?_;refine vE 2 rfl (sA F_ ?_);refine vT 3 rfl (sA F_ ?_);refine vD ?_;refine kC 6 ?_;refine nY ⟨(k1+1),r7.1,r8.1⟩ ⟨rfl,trivial⟩ ⟨rfl,rfl,trivial⟩ ?_ ?_
   . (try simp only[]);omega
   exact⟨by (try simp only[]);omega,e111,⟨⟨hrdo_r7,hrdo_r7.ok⟩,hrdo_r8,hrdo_r8.ok⟩⟩
 have e113:=C6_ (f:=λzz=>D6_ zz x1 x2) hp79_2 (Gp_ (by omega)) (D6_.eq_1 _ _);refine kA 6 ?_;refine aN [4,5,6,7,8,9] 8 mixd ?_;refine kE [0,3] 6 ?_;refine vE 1 rfl (eC (Cr_ x1) rfl ?_);generalize hr115:J_ x1=r9;intro w114;have e116:=e113.trans (Dh_ hr115.symm);have hr115:=hr115.symm;have him_r9:ImOk r9:=rt_im (s:=x1) hrt_x1 (by first|exact hr115|exact Eq.symm hr115);refine vC 2 rfl (Ha_ r9 (hx:=by exact him_r9)) rfl λw117=>?_;refine vE 4 rfl (eC (Cr_ x2) rfl ?_);generalize hr119:J_ x2=r10;intro w118;have e120:=e116.trans (Dh_ hr119.symm);have hr119:=hr119.symm;have him_r10:ImOk r10:=rt_im (s:=x2) hrt_x2 (by first|exact hr119|exact Eq.symm hr119);refine vC 5 rfl (Ha_ r10 (hx:=by exact him_r10)) rfl λw121=>?_;refine kE [6,7] 0 ?_;refine vD ?_;refine kA 2 ?_;subst e120;exact qr1
end Go.SW.V
namespace Go.SW
def errD:DataW Unit->Bs
 | .iface _ (.ptr (.agg [.lit (.string b)]))=>b
 |_=>[]
def layE (pt low:Nat):Nat->List (Nat×DataW Unit)->Array Obj->Array Obj
 |_,[],h=>h
 | k,x::l,h=>layE pt low (k+1) l (h.modify x.1 λ
   | .cells _ t frozen=> .cells #[.iface pt (.pointer (some ⟨low+k,0,none⟩))] t frozen
   |o=>o)
noncomputable def laidWE (P:Program) (os:Os) (pt st:Nat) (l e:List (Nat×DataW Unit)):World:=
 let low:=(World.holding P os ⟨#[],#[],[]⟩).heap.size
 let w0:=World.holding P os ⟨(e.map λx=>Obj.cells #[.string ⟨(errD x.2).toArray⟩] st).toArray,#[],[]⟩
 {w0 with heap:=layE pt low 0 e (List.foldl (λh x=>h.modify x.1 (layD x.2)) w0.heap l)}
end Go.SW
namespace Go.SW.V
open Go.SW
theorem O5_ {α:Type} [Inhabited α] (f:List α->List α->Nat->Bool) (b:List α) (hn:∀ k,f b [] k=true) (hc:∀ x t k,gt b k=x->f b (x::t) k=f b t (k+1)):∀ (t:List α) (k:Nat),b.drop k=t->f b t k=true
 |[],k,_=>hn k
 |x::t,k,h=>by
   have hk:gt b k=x:=by
     have :(b.drop k)[0]? = some x:=by rw[h];rfl
     rw[List.getElem?_drop] at this
     simp only[Nat.add_zero] at this
     simp[gt,this]
   rw[hc x t k hk]
   refine O5_ f b hn hc t (k+1) ?_
   have :=congrArg (List.drop 1) h
   simpa [List.drop_drop,Nat.add_comm] using this
theorem Sz_ (x:K_):Lu_ x x=true:=by simp[Lu_]
theorem Vj_ (l:List K_):Nq_ l l=true:=by
 simp only[Nq_,decide_true,Bool.not_true,cond_false]
 exact O5_ (λb t k=>Gy_ b t k) l (λ_=>rfl) (λx t k h=>by simp[Gy_,h,Sz_]) l 0 rfl
theorem Vk_ (l:List Mail):Nr_ l l=true:=by
 simp only[Nr_,decide_true,Bool.not_true,cond_false]
 exact O5_ (λb t k=>Gz_ b t k) l (λ_=>rfl) (λx t k h=>by simp[Gz_,h]) l 0 rfl
theorem Vi_ (l:List Q_):L5_ l l=true:=by
 simp only[L5_,decide_true,Bool.not_true,cond_false]
 exact O5_ (λb t k=>Gx_ b t k) l (λ_=>rfl) (λx t k h=>by simp[Gx_,h]) l 0 rfl
theorem Q3_ (x:Fd_):Ku_ x x=true:=by simp[Ku_,Pi_,Vj_]
theorem Xb_ (l:List Fd_):P4_ l l=true:=by
 simp only[P4_,decide_true,Bool.not_true,cond_false]
 exact O5_ (λb t k=>Ht_ b t k) l (λ_=>rfl) (λx t k h=>by simp[Ht_,h,Q3_]) l 0 rfl
theorem T2_ (x:Bc_):Kq_ x x=true:=by simp[Kq_,Vk_]
theorem Mo_ (s:D_):∀ (f v:Nat),16<v+f->v<=16->H1_ s s f v=true
 |0,v,h,h2=>by omega
 |f+1,v,h,h2=>by
   unfold H1_
   rw[T2_]
   cases e:decide ((v:Int)<16) with
   |true=>
     simp only[decide_eq_true_eq] at e
     simp only[cond_true,Bool.not_true,cond_false]
     exact Mo_ s f (v+1) (by omega) (by omega)
   |false=>rfl
theorem Tv_ (s:D_):Ke_ s s=true:=by
 simp only[Ke_,decide_true,Bool.not_true,Bool.false_or,Xb_,cond_false]
 exact Mo_ s _ 0 (by decide) (by decide)
theorem Tw_ (x:Aa_):L1_ x x=true:=by
 simp[L1_,H0_,Vi_,Tv_,Nx_]
theorem awake24:Pe_=true:=by decide +kernel
theorem same_res (r:Ar_):Ib_ (Hv_ r) (Hv_ r)=true:=by
 simp[Ib_,Hv_,La_]
theorem goes1:∀ (t:List O_) (s:C_),D6_ t s s=true
 |[],s=>by
   unfold D6_ lt
   simp
 |d::t,s=>by
   unfold D6_ lt
   dsimp only
   rw[same_res,Tw_]
   simp only[decide_true,Bool.not_true,Bool.or_false,cond_false]
   exact goes1 t _
theorem goes0 {p:E_} {k:Int} (more:List O_):∀ (l:List O_) (s:C_),(∀ d∈l,DdOk d/\DdF d)->Rt p k s->D5_ p more k l s=true
 |[],s,_,h=>by
   unfold D5_ lt
   dsimp only
   rw[rt_read h]
   dsimp only
   rw[rt_with h,decide_eq_true rfl,Bool.not_true,cond_false]
   exact goes1 more s
 |d::l,s,hd,h=>by
   unfold D5_ lt
   obtain⟨d1,d2⟩:=hd d (by simp)
   exact goes0 more l _ (λq hq=>hd q (by simp[hq])) (rt_do h d1 d2)
theorem law24_goes (p:E_) (place:Int) (l more:List O_) (hpw:(PV.agg (E_.pc p)).wf) (hw:(PV.sl O_.pc l).wf):Iq_ p place l more=true:=by
 unfold Iq_
 rw[awake24,Bool.not_true,cond_false]
 cases hm:Lh_ p with
 |false=>rfl
 |true=>
   cases hl:Ip_ l with
   |false=>rfl
   |true=>
     cases hl2:Ip_ more with
     |false=>rfl
     |true=>
       simp only[Bool.not_true,Bool.false_or,cond_false]
       unfold lt
       obtain⟨h1,h2,_,_,_,_,h7⟩:=l05_may2 hm
       have hat:=at_r p place (by omega)
       have hdd:=Z9_ hl
       refine goes0 more l _ (λd hd=>?_) (rt_new h1 hat (Wm_ hpw))
       obtain⟨k,hk⟩:=List.getElem?_of_mem hd
       exact⟨hdd.1.1 d hd,deed_f hw hk⟩
end Go.SW.V
