/-
  A part of the proof of SessionPlays: The walks of this seat, printed by program: draft.Draft.Add, draft.Draft.At, stairwellref26.Add, stairwellref26.At, stairwelllaw22.All, stairwelllaw23.Light, stairwellref22.SameAll, chans.Chan.Take, chans.Chan.Leave, chans.Chan.Takers, chans.Chan.Len
-/
import Derived.Test.YtifcilncaepeoaaGreatDoorProg
import Derived.Test.YtifcilncaepeoaaGreatDoorSessionPlaysP3
import Derived.KernelRfl
import Derived.Test.YtifcilncaepeoaaGreatDoorSessionPlaysP5
import Derived.Test.YtifcilncaepeoaaGreatDoorSessionPlaysP4
import Derived.Test.YtifcilncaepeoaaGreatDoorSessionPlaysP1
set_option linter.unusedVariables false
set_option linter.unusedSimpArgs false
set_option maxRecDepth 100000
set_option maxHeartbeats 4000000
namespace Go.SW.V
open Go.SW Go.Proofs
abbrev R1_:DeedR->PV:=fun r=> .agg (DeedR.pc r)
theorem cb11:Ah_ Tryz.prog 11:=Z_ Tryz.func11 (by kernel_rfl) (by kernel_rfl)
theorem cb191:Ah_ Tryz.prog 191:=Z_ Tryz.func191 (by kernel_rfl) (by kernel_rfl)
abbrev ty55:TI:=⟨.slc 177,1,24,[.sl L_.pc []]⟩
abbrev ty126:TI:=⟨.agg [(0,1),(1,1)],2,24,[.int .u64 0, .str []]⟩
abbrev ty177:TI:=⟨.agg [(0,1),(1,1)],2,24,[.int .u64 0, .str []]⟩
def tbv42:Tb:=[(4,ty4),(5,ty5),(9,ty9),(25,ty25),(26,ty26),(27,ty27),(28,ty28),(30,ty30),(32,ty32),(39,ty39),(51,ty51),(53,ty53),(55,ty55),(56,ty56),(57,ty57),(59,ty59),(126,ty126),(151,ty151),(177,ty177),(184,Y3_),(187,ty187),(242,ty242),(280,ty280)]
theorem tv42:tbB Tryz.prog tbv42=true:=by kernel_rfl
theorem Ne_ (x:Ap_) (l:List DeedR) (hx:x.l.length<=1000:=by first|omega|(simp;omega)|decide +kernel):Fn Tryz.prog gb 99 [.agg (Ap_.pc x), .sl DeedR.pc l] (.tup [.agg (Ap_.pc ((Dd_ x l).1)), .int .i64 ((Dd_ x l).2)]):=by
  refine fC Tryz.func99 tv42 Tryz.ntmps99 fun w N H hG=>?_;have x_l_l:x.l.length<=140737488355328:=w.1.1.1;have l_l:l.length<=140737488355328:=w.2.1.1;have e0:=Dd_.eq_1 x l;generalize Dd_ x l=z at e0 ⊢;refine gm tv42 23 [0,1,2] fun B2=>?_;refine loop (ι:=Nat×Ap_) [2,4,6,11,12] [0,1] (fun ⟨k,x1⟩=>[(13, .int .i64 (k:Int))]) (fun ⟨k,x1⟩=>[(2, .box (B2 2) 30 (Ap_.pc x1))]) (fun ⟨k,x1⟩=>k<=l.length/\z=Bj_ x (l.drop k) x1/\x1.l.length<=1000) (fun ⟨k,x1⟩=>l.length-k) ⟨0,x⟩ ⟨rfl,trivial⟩ ⟨rfl,trivial⟩ ?_ ?_
  · exact⟨Nat.zero_le _,e0,(by first|omega|(simp;done)|(simp;omega))⟩
  rintro⟨k,x1⟩ ⟨hp5_1,hp5_2,hp5_3⟩;refine gx tv42 6 ?_;refine cn rfl (fun p7=>?_) fun p32=>?_
  · have e8:=C1_ (f:=fun zz=>Bj_ x zz x1) hp5_2 (Fr_ (by omega)) (Bj_.eq_2 _ _ _ _);have hc9:=getG (xs:=l) (k:=k) (by omega);refine gx tv42 6 ?_;refine q1 (qidx tv42 k rfl rfl rfl hc9 rfl rfl rfl rfl) rfl fun w10=>?_;refine gm tv42 10 [3] fun B12=>?_;refine cV e8 R0_ (Lg_ _ _) rfl fun r hr13 e15 w14=>?_;have hA15:=chk_lt x1 (gt l k)
    (try rw[<- hr13] at hA15)
    have hA16:=chk_head x1 (gt l k)
    (try rw[<- hr13] at hA16)
    refine gx tv42 9 ?_;refine cN e15 (fun p20 e21=>?_) (fun p24 e25=>?_)
    · refine gm tv42 15 [] fun _=>?_;subst e21;exact qr2
    refine gx tv42 2 ?_;refine aN [4,5,6,7,8,9] 9 mixd ?_;refine gX tv42 [0,1,2] 6 ?_;refine vE 3 rfl (eC (Lq_ _) rfl ?_);generalize hr27:Fv_ (gt l k)=r1;intro w26;have e28:=e25.trans (Aq_ hr27.symm);refine vE 4 rfl (bsl 4 DeedR.pc [r1] tv42 rfl rfl rfl rfl rfl (fun _=>rfl) rfl (by decide) (by decide) rfl fun u29=>?_);refine vE 5 rfl (Lf_ 4 rfl (bsl 4 (slc DeedR.pc) [x1.l,[r1]] tv42 rfl rfl rfl rfl rfl (fun _=>rfl) rfl (by decide) (by decide) rfl fun u30=>?_));refine vE 6 rfl (Lf_ 4 rfl (Me_ (eC (Yq_ _) rfl fun w31=>?_)));refine gX tv42 [7] 1 ?_;refine vT 8 rfl (sA tv42 ?_);refine vD ?_;refine gy tv42 6 ?_;refine next ⟨(k+1),(⟨[x1.l,[r1]].flatten⟩:Ap_)⟩ rfl rfl ⟨rfl,trivial⟩ ⟨rfl,trivial⟩ ?_ ?_
    · (try simp only[]);omega
    exact⟨by (try simp only[]);omega,e28,(by (try simp only[List.length_append,List.length_cons,List.length_nil,List.flatten_cons,List.flatten_nil,List.append_nil,List.length_take,List.length_drop]);omega)⟩
  have e33:=C1_ (f:=fun zz=>Bj_ x zz x1) hp5_2 (Gb_ (by omega)) (Bj_.eq_1 _ _);refine gm tv42 13 [] fun _=>?_;subst e33;exact qr2
theorem Nu_ (x:Ap_) (tick:Int) (hx:x.l.length<=1000:=by first|omega|(simp;omega)|decide +kernel) (hh:∀ d∈x.l,d.mail.head.length<=1000000:=by assumption):Fo Tryz.prog gb 191 [.agg (Ap_.pc x), .int .u64 tick] (fun u=> .val u) 29 53 DeedR.pc (Ct_ x tick):=by
  refine Ro_ tv42 Tryz.func191 rfl Tryz.ntmps191 rfl cb191 (fun _=>rfl) rfl fun w N H hG=>?_;have e0:=Ct_.eq_1 x tick;refine gm tv42 21 [0] fun B2=>?_;refine sw_own (t:=5) (k:=29) (e:=53) 1 DeedR.pc rfl rfl ?_;refine loop (ι:=Nat×(List DeedR)×Value) [1,4,9,10] [0] (fun ⟨k,out,u_out⟩=>[(11, .int .i64 (k:Int)),(5, .osl 1)]) (fun ⟨k,out,u_out⟩=>[(1, .arr u_out 29 53 DeedR.pc out)]) (fun ⟨k,out,u_out⟩=>k<=x.l.length/\Ct_ x tick=Az_ tick (x.l.drop k) out/\out.length<=k) (fun ⟨k,out,u_out⟩=>x.l.length-k) ⟨0,[],(.slice none 0 0)⟩ ⟨rfl,rfl,trivial⟩ ⟨rfl,trivial⟩ ?_ ?_
  · exact⟨Nat.zero_le _,e0,(by first|omega|(simp;done)|(simp;omega))⟩
  rintro⟨k,out,u_out⟩ ⟨hp3_1,hp3_2,hp3_3⟩;refine gx tv42 6 ?_;refine cn rfl (fun p5=>?_) fun p26=>?_
  · have e6:=C1_ (f:=fun zz=>Az_ tick zz out) hp3_2 (Fr_ (by omega)) (Az_.eq_2 _ _ _ _);have hc7:=getG (xs:=x.l) (k:=k) (by omega);have hh_hc7:=hh (gt x.l k) (List.mem_of_getElem? hc7);refine gx tv42 6 ?_;refine q1 (qidx tv42 k rfl rfl rfl hc7 rfl rfl rfl rfl) rfl fun w8=>?_;refine gm tv42 8 [2] fun B10=>?_;refine cV e6 R1_ (Lq_ _) rfl fun r hr11 e13 w12=>?_;refine gm tv42 18 [] fun _=>?_;refine cD e13 (fun p16 e17=>?_) (fun p22 e23=>?_)
    · refine gx tv42 5 ?_;refine call (K9_ _ _) rfl rfl fun w18=>?_;refine gm tv42 8 [] fun _=>?_;refine ef (bsl 3 DeedR.pc [(⟨r.kind,tick,r.shop,r.queue,r.bind,r.name,r.id,r.how,r.frm,r.code,r.number,(⟨r.mail.id,r.mail.shop,r.mail.key,r.mail.head,r.mail.body,Gc_ tick r.mail.due,r.mail.hops⟩:Mail),r.text⟩:DeedR)] tv42 rfl rfl rfl rfl rfl (fun _=>rfl) rfl (by decide) (by decide) rfl fun u20=>?_);refine ef (app tv42 [(⟨r.kind,tick,r.shop,r.queue,r.bind,r.name,r.id,r.how,r.frm,r.code,r.number,(⟨r.mail.id,r.mail.shop,r.mail.key,r.mail.head,r.mail.body,Gc_ tick r.mail.due,r.mail.hops⟩:Mail),r.text⟩:DeedR)] rfl rfl rfl rfl rfl rfl rfl rfl rfl (src_o rfl rfl) (by first|omega|(simp;omega)) rfl fun u21=>?_);refine gy tv42 8 ?_;refine next ⟨(k+1),(out++[(⟨r.kind,tick,r.shop,r.queue,r.bind,r.name,r.id,r.how,r.frm,r.code,r.number,(⟨r.mail.id,r.mail.shop,r.mail.key,r.mail.head,r.mail.body,Gc_ tick r.mail.due,r.mail.hops⟩:Mail),r.text⟩:DeedR)]),(u21)⟩ rfl rfl ⟨rfl,rfl,trivial⟩ ⟨rfl,trivial⟩ ?_ ?_
      · (try simp only[]);omega
      exact⟨by (try simp only[]);omega,e17,(by (try simp only[List.length_append,List.length_cons,List.length_nil,List.flatten_cons,List.flatten_nil,List.append_nil,List.length_take,List.length_drop]);omega)⟩
    refine gx tv42 5 ?_;refine ef (bsl 3 DeedR.pc [(⟨r.kind,tick,r.shop,r.queue,r.bind,r.name,r.id,r.how,r.frm,r.code,r.number,r.mail,r.text⟩:DeedR)] tv42 rfl rfl rfl rfl rfl (fun _=>rfl) rfl (by decide) (by decide) rfl fun u24=>?_);refine ef (app tv42 [(⟨r.kind,tick,r.shop,r.queue,r.bind,r.name,r.id,r.how,r.frm,r.code,r.number,r.mail,r.text⟩:DeedR)] rfl rfl rfl rfl rfl rfl rfl rfl rfl (src_o rfl rfl) (by first|omega|(simp;omega)) rfl fun u25=>?_);refine gy tv42 8 ?_;refine next ⟨(k+1),(out++[(⟨r.kind,tick,r.shop,r.queue,r.bind,r.name,r.id,r.how,r.frm,r.code,r.number,r.mail,r.text⟩:DeedR)]),(u25)⟩ rfl rfl ⟨rfl,rfl,trivial⟩ ⟨rfl,trivial⟩ ?_ ?_
    · (try simp only[]);omega
    exact⟨by (try simp only[]);omega,e23,(by (try simp only[List.length_append,List.length_cons,List.length_nil,List.flatten_cons,List.flatten_nil,List.append_nil,List.length_take,List.length_drop]);omega)⟩
  have e27:=C1_ (f:=fun zz=>Az_ tick zz out) hp3_2 (Gb_ (by omega)) (Az_.eq_1 _ _);refine gx tv42 11 ?_;refine sw_val (t:=4) (i:=1) rfl rfl ?_;refine gx tv42 1 ?_;refine ro1 (j:=1) rfl rfl rfl ?_;exact (congrArg (fun r:(List DeedR)=>r) e27).symm
theorem r26_Add_ok (x:List DeedR) (l:List DeedR) (hx:x.length<=1000:=by first|omega|(simp;omega)|decide +kernel):Fn Tryz.prog gb 100 [.sl DeedR.pc x, .sl DeedR.pc l] (.tup [.sl DeedR.pc ((Jl_ x l).1), .int .i64 ((Jl_ x l).2)]):=by
  refine fC Tryz.func100 tv42 Tryz.ntmps100 fun w N H hG=>?_;have x_l:x.length<=140737488355328:=w.1.1;have l_l:l.length<=140737488355328:=w.2.1.1;have e0:=Jl_.eq_1 x l;generalize Jl_ x l=z at e0 ⊢;refine gx tv42 15 ?_;refine ef (app0 0 tv42 x rfl rfl rfl rfl rfl rfl rfl (src_l rfl (fun _=>rfl)) (by first|omega|(simp;omega)) rfl rfl fun u1=>?_);refine gx tv42 12 ?_;refine loop (ι:=Nat×(List DeedR)×Value) [0,13,14] [] (fun ⟨k,out,u_out⟩=>[(15, .int .i64 (k:Int)),(6, .osl 0)]) (fun ⟨k,out,u_out⟩=>[(0, .arr u_out 29 184 DeedR.pc out)]) (fun ⟨k,out,u_out⟩=>k<=l.length/\z=Dk_ x (l.drop k) out/\out.length<=1000) (fun ⟨k,out,u_out⟩=>l.length-k) ⟨0,x,(u1)⟩ ⟨rfl,rfl,trivial⟩ ⟨rfl,trivial⟩ ?_ ?_
  · exact⟨Nat.zero_le _,e0,(by first|omega|(simp;done)|(simp;omega))⟩
  rintro⟨k,out,u_out⟩ ⟨hp2_1,hp2_2,hp2_3⟩;refine gx tv42 6 ?_;refine cn rfl (fun p4=>?_) fun p50=>?_
  · have e5:=C1_ (f:=fun zz=>Dk_ x zz out) hp2_2 (Fr_ (by omega)) (Dk_.eq_2 _ _ _ _);have hc6:=getG (xs:=l) (k:=k) (by omega);refine gx tv42 6 ?_;refine q1 (qidx tv42 k rfl rfl rfl hc6 rfl rfl rfl rfl) rfl fun w7=>?_;refine gmy tv42 18 [1] fun B9=>?_;refine cE e5 (fun h10 e17=>?_) (fun h10 e18=>?_)
    · have h11:=bl h10;have h12:=Br_ h11;have p13:=df h12;have h14:=br h10;have h15:=Br_ h14;have p16:=df h15;refine gx tv42 14 ?_;subst e17;exact qr2
    refine gx tv42 5 ?_;refine call (r22_Check _) rfl rfl fun w19=>?_;have :=Ti_ (gt l k);refine gx tv42 10 ?_;refine cN e18 (fun p22 e23=>?_) (fun p25 e26=>?_)
    · refine gx tv42 15 ?_;subst e23;exact qr2
    refine gx tv42 9 ?_;refine bcase (decide (((gt l k).kind)=8)) (fun h27=>?_) (fun h27=>?_)
    · have p28:=dt h27;have e29:=e26.trans (condT h27);refine so_rt (t:=36) (p':= .bool true) (ple (congrArg PV.bool h27)) rfl ?_;refine so_rt (t:=37) (p':= .bool true) (ple (congrArg PV.bool h27)) rfl ?_;refine ungd rfl rfl ?_;refine gx tv42 1 ?_;refine ungd rfl rfl ?_;refine gx tv42 1 ?_;refine ungd rfl rfl ?_;refine gx tv42 1 ?_;refine ungd rfl rfl ?_;refine gx tv42 1 ?_;refine ungd rfl rfl ?_;refine gx tv42 1 ?_;refine ungd rfl rfl ?_;refine ef (calll 0 rfl (Lo_ _ _ _) rfl rfl rfl fun w30=>?_);refine gx tv42 3 ?_;refine cE e29 (fun h31 e32=>?_) (fun h31 e33=>?_)
      · refine gx tv42 14 ?_;subst e32;exact qr2
      refine gx tv42 10 ?_;refine cD e33 (fun p35 e36=>?_) (fun p37 e38=>?_)
      · refine gx tv42 14 ?_;subst e36;exact qr2
      refine gx tv42 5 ?_;refine ef (bsl 2 DeedR.pc [(gt l k)] tv42 rfl rfl rfl rfl rfl (fun _=>rfl) rfl (by decide) (by decide) rfl fun u39=>?_);refine ef (app tv42 [(gt l k)] rfl rfl rfl rfl rfl rfl rfl rfl rfl (src_o rfl rfl) (by first|omega|(simp;omega)) rfl fun u40=>?_);refine gy tv42 8 ?_;refine next ⟨(k+1),(out++[(gt l k)]),(u40)⟩ rfl rfl ⟨rfl,rfl,trivial⟩ ⟨rfl,trivial⟩ ?_ ?_
      · (try simp only[]);omega
      exact⟨by (try simp only[]);omega,e38,(by (try simp only[List.length_append,List.length_cons,List.length_nil,List.flatten_cons,List.flatten_nil,List.append_nil,List.length_take,List.length_drop]);omega)⟩
    have p41:=df h27;have e42:=e26.trans (condF h27);refine so_rt (t:=36) (p':= .bool false) (ple (congrArg PV.bool h27)) rfl ?_;refine so_rt (t:=37) (p':= .bool false) (ple (congrArg PV.bool h27)) rfl ?_;refine ungs rfl rfl rfl ?_;refine ungs rfl rfl rfl ?_;refine ungs rfl rfl rfl ?_;refine ungs rfl rfl rfl ?_;refine ungs rfl rfl rfl ?_;refine ungs rfl rfl rfl ?_;refine gx tv42 14 ?_;refine cD e42 (fun p44 e45=>?_) (fun p46 e47=>?_)
    · refine gx tv42 14 ?_;subst e45;exact qr2
    refine gx tv42 5 ?_;refine ef (bsl 2 DeedR.pc [(gt l k)] tv42 rfl rfl rfl rfl rfl (fun _=>rfl) rfl (by decide) (by decide) rfl fun u48=>?_);refine ef (app tv42 [(gt l k)] rfl rfl rfl rfl rfl rfl rfl rfl rfl (src_o rfl rfl) (by first|omega|(simp;omega)) rfl fun u49=>?_);refine gy tv42 8 ?_;refine next ⟨(k+1),(out++[(gt l k)]),(u49)⟩ rfl rfl ⟨rfl,rfl,trivial⟩ ⟨rfl,trivial⟩ ?_ ?_
    · (try simp only[]);omega
    exact⟨by (try simp only[]);omega,e47,(by (try simp only[List.length_append,List.length_cons,List.length_nil,List.flatten_cons,List.flatten_nil,List.append_nil,List.length_take,List.length_drop]);omega)⟩
  have e51:=C1_ (f:=fun zz=>Dk_ x zz out) hp2_2 (Gb_ (by omega)) (Dk_.eq_1 _ _);refine gx tv42 12 ?_;refine givec 0 rfl ?_;refine gx tv42 1 ?_;subst e51;exact qr2
theorem r26_At_ok (x:List DeedR) (tick:Int) (hx:x.length<=1000:=by first|omega|(simp;omega)|decide +kernel):Fn Tryz.prog gb 237 [.sl DeedR.pc x, .int .u64 tick] (.sl DeedR.pc (S7_ x tick)):=by
  refine fC Tryz.func237 tv42 Tryz.ntmps237 fun w N H hG=>?_;have e0:=S7_.eq_1 x tick;refine gx tv42 19 ?_;refine sw_own (t:=5) (k:=29) (e:=184) 0 DeedR.pc rfl rfl ?_;refine loop (ι:=Nat×(List DeedR)×Value) [1,4,8,9] [] (fun ⟨k,out,u_out⟩=>[(10, .int .i64 (k:Int)),(5, .osl 0)]) (fun ⟨k,out,u_out⟩=>[(0, .arr u_out 29 184 DeedR.pc out)]) (fun ⟨k,out,u_out⟩=>k<=x.length/\S7_ x tick=Ee_ tick (x.drop k) out/\out.length<=k) (fun ⟨k,out,u_out⟩=>x.length-k) ⟨0,[],(.slice none 0 0)⟩ ⟨rfl,rfl,trivial⟩ ⟨rfl,trivial⟩ ?_ ?_
  · exact⟨Nat.zero_le _,e0,(by first|omega|(simp;done)|(simp;omega))⟩
  rintro⟨k,out,u_out⟩ ⟨hp1_1,hp1_2,hp1_3⟩;refine gx tv42 6 ?_;refine cn rfl (fun p3=>?_) fun p20=>?_
  · have e4:=C1_ (f:=fun zz=>Ee_ tick zz out) hp1_2 (Fr_ (by omega)) (Ee_.eq_2 _ _ _ _);have hc5:=getG (xs:=x) (k:=k) (by omega);refine gx tv42 6 ?_;refine q1 (qidx tv42 k rfl rfl rfl hc5 rfl rfl rfl rfl) rfl fun w6=>?_;refine gm tv42 20 [1] fun B8=>?_;refine cD e4 (fun p10 e11=>?_) (fun p16 e17=>?_)
    · refine gx tv42 5 ?_;refine call (Z3_ _ _) rfl rfl fun w12=>?_;refine gm tv42 8 [] fun _=>?_;refine ef (bsl 2 DeedR.pc [(⟨(gt x k).kind,tick,(gt x k).shop,(gt x k).queue,(gt x k).bind,(gt x k).name,(gt x k).id,(gt x k).how,(gt x k).frm,(gt x k).code,(gt x k).number,(⟨(gt x k).mail.id,(gt x k).mail.shop,(gt x k).mail.key,(gt x k).mail.head,(gt x k).mail.body,Gc_ tick ((gt x k).mail.due),(gt x k).mail.hops⟩:Mail),(gt x k).text⟩:DeedR)] tv42 rfl rfl rfl rfl rfl (fun _=>rfl) rfl (by decide) (by decide) rfl fun u14=>?_);refine ef (app tv42 [(⟨(gt x k).kind,tick,(gt x k).shop,(gt x k).queue,(gt x k).bind,(gt x k).name,(gt x k).id,(gt x k).how,(gt x k).frm,(gt x k).code,(gt x k).number,(⟨(gt x k).mail.id,(gt x k).mail.shop,(gt x k).mail.key,(gt x k).mail.head,(gt x k).mail.body,Gc_ tick ((gt x k).mail.due),(gt x k).mail.hops⟩:Mail),(gt x k).text⟩:DeedR)] rfl rfl rfl rfl rfl rfl rfl rfl rfl (src_o rfl rfl) (by first|omega|(simp;omega)) rfl fun u15=>?_);refine gy tv42 8 ?_;refine next ⟨(k+1),(out++[(⟨(gt x k).kind,tick,(gt x k).shop,(gt x k).queue,(gt x k).bind,(gt x k).name,(gt x k).id,(gt x k).how,(gt x k).frm,(gt x k).code,(gt x k).number,(⟨(gt x k).mail.id,(gt x k).mail.shop,(gt x k).mail.key,(gt x k).mail.head,(gt x k).mail.body,Gc_ tick ((gt x k).mail.due),(gt x k).mail.hops⟩:Mail),(gt x k).text⟩:DeedR)]),(u15)⟩ rfl rfl ⟨rfl,rfl,trivial⟩ ⟨rfl,trivial⟩ ?_ ?_
      · (try simp only[]);omega
      exact⟨by (try simp only[]);omega,e11,(by (try simp only[List.length_append,List.length_cons,List.length_nil,List.flatten_cons,List.flatten_nil,List.append_nil,List.length_take,List.length_drop]);omega)⟩
    refine gx tv42 5 ?_;refine ef (bsl 2 DeedR.pc [(⟨(gt x k).kind,tick,(gt x k).shop,(gt x k).queue,(gt x k).bind,(gt x k).name,(gt x k).id,(gt x k).how,(gt x k).frm,(gt x k).code,(gt x k).number,(gt x k).mail,(gt x k).text⟩:DeedR)] tv42 rfl rfl rfl rfl rfl (fun _=>rfl) rfl (by decide) (by decide) rfl fun u18=>?_);refine ef (app tv42 [(⟨(gt x k).kind,tick,(gt x k).shop,(gt x k).queue,(gt x k).bind,(gt x k).name,(gt x k).id,(gt x k).how,(gt x k).frm,(gt x k).code,(gt x k).number,(gt x k).mail,(gt x k).text⟩:DeedR)] rfl rfl rfl rfl rfl rfl rfl rfl rfl (src_o rfl rfl) (by first|omega|(simp;omega)) rfl fun u19=>?_);refine gy tv42 8 ?_;refine next ⟨(k+1),(out++[(⟨(gt x k).kind,tick,(gt x k).shop,(gt x k).queue,(gt x k).bind,(gt x k).name,(gt x k).id,(gt x k).how,(gt x k).frm,(gt x k).code,(gt x k).number,(gt x k).mail,(gt x k).text⟩:DeedR)]),(u19)⟩ rfl rfl ⟨rfl,rfl,trivial⟩ ⟨rfl,trivial⟩ ?_ ?_
    · (try simp only[]);omega
    exact⟨by (try simp only[]);omega,e17,(by (try simp only[List.length_append,List.length_cons,List.length_nil,List.flatten_cons,List.flatten_nil,List.append_nil,List.length_take,List.length_drop]);omega)⟩
  have e21:=C1_ (f:=fun zz=>Ee_ tick zz out) hp1_2 (Gb_ (by omega)) (Ee_.eq_1 _ _);refine gx tv42 11 ?_;refine givec 0 rfl ?_;refine gx tv42 1 ?_;exact rt1 rfl rfl (Au_ (fun r:(List DeedR)=> .sl DeedR.pc r) e21 (ple rfl))
theorem N8_ (l:List DeedR) (hl:l.length<=100000000:=by first|omega|(simp;omega)|decide +kernel):Fn Tryz.prog gb 34 [.sl DeedR.pc l] (.tup [.sl DeedR.pc ((Ic_ l).1), .bool ((Ic_ l).2)]):=by
  refine fC Tryz.func34 tv42 Tryz.ntmps34 fun w N H hG=>?_;have e0:=Ic_.eq_1 l;generalize Ic_ l=z at e0 ⊢;refine gx tv42 20 ?_;refine sw_own (t:=4) (k:=29) (e:=184) 0 DeedR.pc rfl rfl ?_;refine loop (ι:=Nat×(List DeedR)×Value) [7,8] [] (fun ⟨k,out,u_out⟩=>[(9, .int .i64 (k:Int)),(4, .osl 0)]) (fun ⟨k,out,u_out⟩=>[(0, .arr u_out 29 184 DeedR.pc out)]) (fun ⟨k,out,u_out⟩=>k<=l.length/\z=D8_ (l.drop k) out/\out.length<=k) (fun ⟨k,out,u_out⟩=>l.length-k) ⟨0,[],(.slice none 0 0)⟩ ⟨rfl,rfl,trivial⟩ ⟨rfl,trivial⟩ ?_ ?_
  · exact⟨Nat.zero_le _,e0,(by first|omega|(simp;done)|(simp;omega))⟩
  rintro⟨k,out,u_out⟩ ⟨hp1_1,hp1_2,hp1_3⟩;refine gx tv42 6 ?_;refine cn rfl (fun p3=>?_) fun p18=>?_
  · have e4:=C1_ (f:=fun zz=>D8_ zz out) hp1_2 (Fr_ (by omega)) (D8_.eq_2 _ _ _);have hc5:=getG (xs:=l) (k:=k) (by omega);refine gx tv42 6 ?_;refine q1 (qidx tv42 k rfl rfl rfl hc5 rfl rfl rfl rfl) rfl fun w6=>?_;refine gm tv42 9 [1] fun B8=>?_;refine call (l22_Light _) rfl rfl fun w9=>?_;have hld9:=N0_ (gt l k);refine gx tv42 3 ?_;refine cE e4 (fun h10 e12=>?_) (fun h10 e14=>?_)
    · have h11:=Br_ h10;refine gx tv42 13 ?_;subst e12;exact rt2 rfl rfl (Ba_ (B_ Ak_ (B_ (ple rfl) Ag_)))
    have h13:=Bf_ h10;refine gx tv42 5 ?_;refine call (l22_To _ (by first|omega|(have :=N0_ (gt l k) (by assumption);omega))) rfl rfl fun w15=>?_;refine ef (bsl 2 DeedR.pc [(gt l k)] tv42 rfl rfl rfl rfl rfl (fun _=>rfl) rfl (by decide) (by decide) rfl fun u16=>?_);refine ef (app tv42 [(gt l k)] rfl rfl rfl rfl rfl rfl rfl rfl rfl (src_o rfl rfl) (by first|omega|(simp;omega)) rfl fun u17=>?_);refine gy tv42 8 ?_;refine next ⟨(k+1),(out++[(gt l k)]),(u17)⟩ rfl rfl ⟨rfl,rfl,trivial⟩ ⟨rfl,trivial⟩ ?_ ?_
    · (try simp only[]);omega
    exact⟨by (try simp only[]);omega,e14,(by (try simp only[List.length_append,List.length_cons,List.length_nil,List.flatten_cons,List.flatten_nil,List.append_nil,List.length_take,List.length_drop]);omega)⟩
  have e19:=C1_ (f:=fun zz=>D8_ zz out) hp1_2 (Gb_ (by omega)) (D8_.eq_1 _);refine gx tv42 12 ?_;refine givec 0 rfl ?_;refine gx tv42 1 ?_;subst e19;exact qr2
theorem Iv_ (a:List DeedR) (b:List DeedR):Fn Tryz.prog gb 35 [.sl DeedR.pc a, .sl DeedR.pc b] (.bool (Fs_ a b)):=by
  refine fC Tryz.func35 tv42 Tryz.ntmps35 fun w N H hG=>?_;have a_l:a.length<=140737488355328:=w.1.1;have b_l:b.length<=140737488355328:=w.2.1.1;have e0:=Fs_.eq_1 a b;generalize Fs_ a b=z at e0 ⊢;refine gx tv42 15 ?_;refine cN e0 (fun p3 e4=>?_) (fun p6 e7=>?_)
  · refine gx tv42 7 ?_;subst e4;exact qr1
  refine gx tv42 11 ?_;refine loop (ι:=Nat) [0,1,12] [] (fun k=>[(13, .int .i64 (k:Int))]) (fun k=>[]) (fun k=>k<=a.length/\z=C5_ b (a.drop k) k) (fun k=>a.length-k) 0 ⟨rfl,trivial⟩ trivial ?_ ?_
  · exact⟨Nat.zero_le _,e7⟩
  rintro k ⟨hp8_1,hp8_2⟩;refine gx tv42 6 ?_;refine cn rfl (fun p10=>?_) fun p24=>?_
  · have e11:=C1_ (f:=fun zz=>C5_ b zz k) hp8_2 (Fr_ (by omega)) (C5_.eq_2 _ _ _ _);refine gx tv42 11 ?_;refine aN [0,1,2,3,4,5] 10 mixd ?_;refine gX tv42 [0,1] 8 ?_;have hc12:=getG (xs:=a) (k:=k) (by omega);refine vq 2 (qidx tv42 k rfl rfl rfl hc12 rfl rfl rfl rfl) rfl (by kernel_rfl) rfl fun w13=>?_;refine gX tv42 [3,4,5] 4 ?_;have hc14:=getG (xs:=b) (k:=k) (by omega);refine vq 6 (qidx tv42 k rfl rfl rfl hc14 rfl rfl rfl rfl) rfl (by kernel_rfl) rfl fun w15=>?_;refine gX tv42 [7] 2 ?_;refine vC 8 rfl (r22_Same _ _) rfl fun w16=>?_;refine gX tv42 [9] 0 ?_;refine vD ?_;refine gx tv42 1 ?_;refine cN e11 (fun p19 e20=>?_) (fun p22 e23=>?_)
    · refine gx tv42 11 ?_;subst e20;exact qr1
    refine gy tv42 7 ?_;refine next (k+1) rfl rfl ⟨rfl,trivial⟩ trivial ?_ ?_
    · (try simp only[]);omega
    exact⟨by (try simp only[]);omega,e23⟩
  have e25:=C1_ (f:=fun zz=>C5_ b zz k) hp8_2 (Gb_ (by omega)) (C5_.eq_1 _ _);refine gx tv42 11 ?_;subst e25;exact qr1
theorem M5_ (c:ChanR) (tag:Int) (queue:Bs) (ht:c.takers.length<=1000:=by first|omega|(simp;omega)|decide +kernel):Fn Tryz.prog gb 44 [.agg (ChanR.pc c), .int .u64 tag, .str queue] (.tup [.agg (ChanR.pc ((Bi_ c tag queue).1)), .int .i64 ((Bi_ c tag queue).2)]):=by
  refine fC Tryz.func44 tv42 Tryz.ntmps44 fun w N H hG=>?_;have e0:=Bi_.eq_1 c tag queue;generalize Bi_ c tag queue=z at e0 ⊢;refine gm tv42 16 [0,1] fun B2=>?_;refine cD e0 (fun p5 e6=>?_) (fun p8 e9=>?_)
  · refine gm tv42 10 [] fun _=>?_;subst e6;exact qr2
  refine gx tv42 4 ?_;refine cV e9 R0_ (J6_ _ _) rfl fun r hr10 e12 w11=>?_;have hA12:=Sv_ c tag
  (try rw[<- hr10] at hA12)
  refine gx tv42 4 ?_;refine cD e12 (fun p15 e16=>?_) (fun p18 e19=>?_)
  · refine gm tv42 10 [] fun _=>?_;subst e16;exact qr2
  refine gx tv42 9 ?_;refine cD e19 (fun p21 e22=>?_) (fun p24 e25=>?_)
  · refine gm tv42 10 [] fun _=>?_;subst e22;exact qr2
  refine gx tv42 10 ?_;refine ef (bsl 2 L_.pc [(⟨tag,queue⟩:L_)] tv42 rfl rfl rfl rfl rfl (fun _=>rfl) rfl (by decide) (by decide) rfl fun u26=>?_);refine give 2 rfl ?_;refine ef (bsl 2 (slc L_.pc) [c.takers,[(⟨tag,queue⟩:L_)]] tv42 rfl rfl rfl rfl rfl (fun _=>rfl) rfl (by decide) (by decide) rfl fun u27=>?_);refine give 2 rfl ?_;refine call (Of_ _) rfl rfl fun w28=>?_;refine gm tv42 12 [] fun _=>?_;subst e25;exact qr2
theorem L7_ (c:ChanR) (tag:Int) (ht:c.takers.length<=1000:=by first|omega|(simp;omega)|decide +kernel):Fn Tryz.prog gb 46 [.agg (ChanR.pc c), .int .u64 tag] (.tup [.agg (ChanR.pc ((A1_ c tag).1)), .int .i64 ((A1_ c tag).2)]):=by
  refine fC Tryz.func46 tv42 Tryz.ntmps46 fun w N H hG=>?_;have e0:=A1_.eq_1 c tag;generalize A1_ c tag=z at e0 ⊢;refine gm tv42 11 [0,1] fun B2=>?_;refine cV e0 R0_ (J6_ _ _) rfl fun r hr4 e6 w5=>?_;have hA6:=Sv_ c tag
  (try rw[<- hr4] at hA6)
  refine gx tv42 10 ?_;refine cD e6 (fun p9 e10=>?_) (fun p12 e13=>?_)
  · refine gm tv42 9 [] fun _=>?_;subst e10;exact qr2
  refine gx tv42 3 ?_;refine aN [2,3,4,5,6,7] 13 mixd ?_;refine gX tv42 [0,1,2] 10 ?_;refine vq 3 (lshi tv42 (r).toNat rfl rfl rfl rfl rfl (fun _=>rfl) (by omega) (by omega)) rfl (by kernel_rfl) rfl fun w14=>?_;refine gXy tv42 [4,5,6,7] 5 ?_;refine vq 8 (lslo tv42 ((r+1)).toNat rfl rfl rfl rfl rfl (fun _=>rfl) (by omega) (by omega)) rfl (by kernel_rfl) rfl fun w15=>?_;refine vE 9 rfl (bsl 2 (slc L_.pc) [(c.takers.take (r).toNat),(c.takers.drop ((r+1)).toNat)] tv42 rfl rfl rfl rfl rfl (fun _=>rfl) rfl (by decide) (by decide) rfl fun u16=>?_);refine vE 10 rfl (Lf_ 2 rfl (Me_ (eC (Of_ _) rfl fun w17=>?_)));refine gX tv42 [11] 1 ?_;refine vT 12 rfl (sO tv42 ?_);refine vD ?_;refine gm tv42 9 [] fun _=>?_;subst e13;exact qr2
theorem Lh_ (c:ChanR) (ht:c.takers.length<=1000:=by first|omega|(simp;omega)|decide +kernel):Fn Tryz.prog gb 73 [.agg (ChanR.pc c)] (.sl L_.pc (Ey_ c)):=by
  refine fC Tryz.func73 tv42 Tryz.ntmps73 fun w N H hG=>?_;have e0:=Ey_.eq_1 c;refine gm tv42 10 [0] fun B2=>?_;refine call (Y8_ _) rfl rfl fun w3=>?_;refine gx tv42 4 ?_;exact rt1 rfl rfl (Au_ (fun r:(List L_)=> .sl L_.pc r) e0 (ple rfl))
theorem Ik_ (c:ChanR) (x:LentR) (hn:c.lent.length<=10000000:=by first|omega|(simp;omega)|decide +kernel):Fn Tryz.prog gb 10 [.agg (ChanR.pc c), .agg (LentR.pc x)] (.agg (ChanR.pc (B4_ c x))):=by
  refine fC Tryz.func10 tv42 Tryz.ntmps10 fun w N H hG=>?_;have e0:=B4_.eq_1 c x;refine gm tv42 12 [0,1,2] fun B2=>?_;refine ef (bsl 3 LentR.pc [x] tv42 rfl rfl rfl rfl rfl (fun _=>rfl) rfl (by decide) (by decide) rfl fun u5=>?_);refine give 3 rfl ?_;refine ef (bsl 3 (slc LentR.pc) [c.lent,[x]] tv42 rfl rfl rfl rfl rfl (fun _=>rfl) rfl (by decide) (by decide) rfl fun u6=>?_);refine give 3 rfl ?_;refine call (Qv_ _) rfl rfl fun w7=>?_;refine gm tv42 11 [] fun _=>?_;exact rt1 rfl rfl (Au_ (fun r:ChanR=> .agg (ChanR.pc r)) e0 (ple rfl))
theorem Ji_ (c:ChanR) (hn:c.lent.length<=10000000:=by first|omega|(simp;omega)|decide +kernel):Fn Tryz.prog gb 14 [.agg (ChanR.pc c)] (.sl LentR.pc (Dy_ c)):=by
  refine fC Tryz.func14 tv42 Tryz.ntmps14 fun w N H hG=>?_;have e0:=Dy_.eq_1 c;refine gm tv42 10 [0] fun B2=>?_;refine call (clone_Lent _) rfl rfl fun w3=>?_;refine gx tv42 4 ?_;exact rt1 rfl rfl (Au_ (fun r:(List LentR)=> .sl LentR.pc r) e0 (ple rfl))
theorem Kp_ (c:ChanR) (id:Int) (how:Int) (upto:Bool) (hn:c.lent.length<=10000000:=by first|omega|(simp;omega)|decide +kernel):Fo Tryz.prog gb 11 [.agg (ChanR.pc c), .int .u64 id, .int .u64 how, .bool upto] (fun u=> .tup [.val u, .int .i64 ((Q_ c id how upto).2)]) 29 53 DeedR.pc ((Q_ c id how upto).1):=by
  refine Ro_ tv42 Tryz.func11 rfl Tryz.ntmps11 rfl cb11 (fun _=>rfl) rfl fun w N H hG=>?_;have e0:=Q_.eq_1 c id how upto;refine gm tv42 14 [0] fun B2=>?_;refine cD e0 (fun p4 e5=>?_) (fun p6 e7=>?_)
  · refine gx tv42 6 ?_;refine sw_own (t:=8) (k:=29) (e:=53) 1 DeedR.pc rfl rfl ?_;refine sw_val (t:=8) (i:=1) rfl rfl ?_;refine gx tv42 2 ?_;refine roN (j:=1) (.slice none 0 0) rfl rfl rfl rfl ?_ ?_
    · exact (congrArg (fun r:(List DeedR)×Int=>r.1) e5).symm
    exact Au_ (fun r:(List DeedR)×Int=> .tup [.val (.slice none 0 0), .int .i64 r.2]) e5 (ple rfl)
  refine gx tv42 17 ?_;refine sw_own (t:=10) (k:=29) (e:=53) 1 DeedR.pc rfl rfl ?_;refine loop (ι:=Nat×(List DeedR)×Value) [1,2,3,4,16,17] [0] (fun ⟨k,out,u_out⟩=>[(18, .int .i64 (k:Int)),(10, .osl 1)]) (fun ⟨k,out,u_out⟩=>[(1, .arr u_out 29 53 DeedR.pc out)]) (fun ⟨k,out,u_out⟩=>k<=c.lent.length/\Q_ c id how upto=I_ c id how upto (c.lent.drop k) out/\out.length<=k) (fun ⟨k,out,u_out⟩=>c.lent.length-k) ⟨0,[],(.slice none 0 0)⟩ ⟨rfl,rfl,trivial⟩ ⟨rfl,trivial⟩ ?_ ?_
  · exact⟨Nat.zero_le _,e7,(by first|omega|(simp;done)|(simp;omega))⟩
  rintro⟨k,out,u_out⟩ ⟨hp8_1,hp8_2,hp8_3⟩;refine gx tv42 6 ?_;refine cn rfl (fun p10=>?_) fun p28=>?_
  · have e11:=C1_ (f:=fun zz=>I_ c id how upto zz out) hp8_2 (Fr_ (by omega)) (I_.eq_2 _ _ _ _ _ _ _);have hc12:=getG (xs:=c.lent) (k:=k) (by omega);refine gx tv42 6 ?_;refine q1 (qidx tv42 k rfl rfl rfl hc12 rfl rfl rfl rfl) rfl fun w13=>?_;refine gmy tv42 17 [2] fun B15=>?_;refine callg rfl (fun hc=>(Gu_ _ _ _)) rfl ⟨(fun hc=>hc),(fun hc=>hc),(fun hc=>hc),trivial⟩ rfl rfl fun _=>?_;refine gy tv42 13 ?_;refine cE e11 (fun h16 e17=>?_) (fun h16 e20=>?_)
    · refine gy tv42 8 ?_;refine next ⟨(k+1),out,(u_out)⟩ rfl rfl ⟨rfl,rfl,trivial⟩ ⟨rfl,trivial⟩ ?_ ?_
      · (try simp only[]);omega
      exact⟨by (try simp only[]);omega,e17,(by (try simp only[List.length_append,List.length_cons,List.length_nil,List.flatten_cons,List.flatten_nil,List.append_nil,List.length_take,List.length_drop]);omega)⟩
    have h18:=orl h16;have h19:=orr h16;refine gx tv42 12 ?_;refine ef (bsl 3 DeedR.pc [(⟨8,0,(⟨[],0,[]⟩:ShopR),(⟨[],0,0,[]⟩:Aa_),(⟨[],[],false,[],[],false⟩:BindR),(gt c.lent k).queue,(gt c.lent k).id,(IntKind.wrap .u8 how),0,0,0,(⟨0,[],[],[],[],0,0⟩:Mail),[]⟩:DeedR)] tv42 rfl rfl rfl rfl rfl (fun _=>rfl) rfl (by decide) (by decide) rfl fun u21=>?_);refine ef (app tv42 [(⟨8,0,(⟨[],0,[]⟩:ShopR),(⟨[],0,0,[]⟩:Aa_),(⟨[],[],false,[],[],false⟩:BindR),(gt c.lent k).queue,(gt c.lent k).id,(IntKind.wrap .u8 how),0,0,0,(⟨0,[],[],[],[],0,0⟩:Mail),[]⟩:DeedR)] rfl rfl rfl rfl rfl rfl rfl rfl rfl (src_o rfl rfl) (by first|omega|(simp;omega)) rfl fun u22=>?_);refine gx tv42 11 ?_;refine cD e20 (fun p24 e25=>?_) (fun p26 e27=>?_)
    · refine gx tv42 7 ?_;refine sw_val (t:=8) (i:=1) rfl rfl ?_;refine gx tv42 6 ?_;refine roN (j:=1) u22 rfl rfl rfl rfl ?_ ?_
      · exact (congrArg (fun r:(List DeedR)×Int=>r.1) e25).symm
      exact Au_ (fun r:(List DeedR)×Int=> .tup [.val u22, .int .i64 r.2]) e25 (ple rfl)
    refine gy tv42 7 ?_;refine next ⟨(k+1),(out++[(⟨8,0,(⟨[],0,[]⟩:ShopR),(⟨[],0,0,[]⟩:Aa_),(⟨[],[],false,[],[],false⟩:BindR),(gt c.lent k).queue,(gt c.lent k).id,(IntKind.wrap .u8 how),0,0,0,(⟨0,[],[],[],[],0,0⟩:Mail),[]⟩:DeedR)]),(u22)⟩ rfl rfl ⟨rfl,rfl,trivial⟩ ⟨rfl,trivial⟩ ?_ ?_
    · (try simp only[]);omega
    exact⟨by (try simp only[]);omega,e27,(by (try simp only[List.length_append,List.length_cons,List.length_nil,List.flatten_cons,List.flatten_nil,List.append_nil,List.length_take,List.length_drop]);omega)⟩
  have e29:=C1_ (f:=fun zz=>I_ c id how upto zz out) hp8_2 (Gb_ (by omega)) (I_.eq_1 _ _ _ _ _);refine gx tv42 11 ?_;refine sw_own (t:=8) (k:=29) (e:=53) 2 DeedR.pc rfl rfl ?_;refine sw_val (t:=8) (i:=2) rfl rfl ?_;refine gx tv42 1 ?_;refine roN (j:=2) (.slice none 0 0) rfl rfl rfl rfl ?_ ?_
  · exact (congrArg (fun r:(List DeedR)×Int=>r.1) e29).symm
  exact Au_ (fun r:(List DeedR)×Int=> .tup [.val (.slice none 0 0), .int .i64 r.2]) e29 (ple rfl)
theorem Nb_ (c:ChanR) (l:List DeedR) (hn:c.lent.length<=10000000:=by first|omega|(simp;omega)|decide +kernel):Fn Tryz.prog gb 12 [.agg (ChanR.pc c), .sl DeedR.pc l] (.agg (ChanR.pc (Bn_ c l))):=by
  refine fC Tryz.func12 tv42 Tryz.ntmps12 fun w N H hG=>?_;have c_takers_l:c.takers.length<=140737488355328:=w.1.2.1.1;have c_lent_l:c.lent.length<=140737488355328:=w.1.2.2.1.1;have c_held_l_l:c.held.l.length<=140737488355328:=w.1.2.2.2.2.2.2.1.1;have l_l:l.length<=140737488355328:=w.2.1.1;have e0:=Bn_.eq_1 c l;refine gm tv42 15 [0,1] fun B2=>?_;refine loop (ι:=Nat×ChanR) [2,4,8,9] [1] (fun ⟨k,x⟩=>[(10, .int .i64 (k:Int))]) (fun ⟨k,x⟩=>[(0, .box (B2 0) 32 (ChanR.pc x))]) (fun ⟨k,x⟩=>k<=l.length/\Bn_ c l=W_ (l.drop k) x/\x.lent.length<=10000000) (fun ⟨k,x⟩=>l.length-k) ⟨0,c⟩ ⟨rfl,trivial⟩ ⟨rfl,trivial⟩ ?_ ?_
  · exact⟨Nat.zero_le _,e0,(by first|omega|(simp;done)|(simp;omega))⟩
  rintro⟨k,x⟩ ⟨hp4_1,hp4_2,hp4_3⟩;refine gx tv42 6 ?_;refine cn rfl (fun p6=>?_) fun p27=>?_
  · have e7:=C1_ (f:=fun zz=>W_ zz x) hp4_2 (Fr_ (by omega)) (W_.eq_2 _ _ _);have hc8:=getG (xs:=l) (k:=k) (by omega);refine gx tv42 6 ?_;refine q1 (qidx tv42 k rfl rfl rfl hc8 rfl rfl rfl rfl) rfl fun w9=>?_;refine gm tv42 14 [2] fun B11=>?_;refine cV e7 R0_ (index_Lent _ (⟨(gt l k).id,(gt l k).name⟩:LentR)) rfl fun r hr12 e14 w13=>?_;have hA14:=Lm_ (fun y=>decide ((⟨(gt l k).id,(gt l k).name⟩:LentR)=y)) x.lent
    (try rw[<- hr12] at hA14)
    refine gy tv42 14 ?_;refine cE e14 (fun h16 e21=>?_) (fun h16 e26=>?_)
    · have h17:=bl h16;have p18:=dt h17;have h19:=br h16;have p20:=dt h19;refine aN [3,4,5,6,7,8] 13 mixd ?_;refine gX tv42 [0,1,2] 10 ?_;refine vq 3 (lshi tv42 (r).toNat rfl rfl rfl rfl rfl (fun _=>rfl) (by omega) (by omega)) rfl (by kernel_rfl) rfl fun w22=>?_;refine gXy tv42 [4,5,6,7] 5 ?_;refine vq 8 (lslo tv42 ((r+1)).toNat rfl rfl rfl rfl rfl (fun _=>rfl) (by omega) (by omega)) rfl (by kernel_rfl) rfl fun w23=>?_;refine vE 9 rfl (bsl 3 (slc LentR.pc) [(x.lent.take (r).toNat),(x.lent.drop ((r+1)).toNat)] tv42 rfl rfl rfl rfl rfl (fun _=>rfl) rfl (by decide) (by decide) rfl fun u24=>?_);refine vE 10 rfl (Lf_ 3 rfl (Me_ (eC (Qv_ _) rfl fun w25=>?_)));refine gX tv42 [11] 1 ?_;refine vT 12 rfl (sO tv42 ?_);refine vD ?_;refine gy tv42 6 ?_;refine next ⟨(k+1),(⟨x.credit,x.takers,[(x.lent.take (r).toNat),(x.lent.drop ((r+1)).toNat)].flatten,x.sure,x.drafts,x.puts,x.held⟩:ChanR)⟩ rfl rfl ⟨rfl,trivial⟩ ⟨rfl,trivial⟩ ?_ ?_
      · (try simp only[]);omega
      exact⟨by (try simp only[]);omega,e21,(by (try simp only[List.length_append,List.length_cons,List.length_nil,List.flatten_cons,List.flatten_nil,List.append_nil,List.length_take,List.length_drop]);omega)⟩
    refine gy tv42 7 ?_;refine next ⟨(k+1),x⟩ rfl rfl ⟨rfl,trivial⟩ ⟨rfl,trivial⟩ ?_ ?_
    · (try simp only[]);omega
    exact⟨by (try simp only[]);omega,e26,(by (try simp only[List.length_append,List.length_cons,List.length_nil,List.flatten_cons,List.flatten_nil,List.append_nil,List.length_take,List.length_drop]);omega)⟩
  have e28:=C1_ (f:=fun zz=>W_ zz x) hp4_2 (Gb_ (by omega)) (W_.eq_1 _);refine gm tv42 12 [] fun _=>?_;exact rt1 rfl rfl (Au_ (fun r:ChanR=> .agg (ChanR.pc r)) e28 (ple rfl))
theorem Zn_ (c:ChanR) (tag:Int) (queue:Bs) (ht:c.takers.length<=1000:=by first|omega|(simp;omega)|decide +kernel):Fn Tryz.prog gb 45 [.agg (ChanR.pc c), .int .u64 tag, .str queue] (.tup [.agg (ChanR.pc ((Hv_ c tag queue).1)), .int .i64 ((Hv_ c tag queue).2)]):=by
  refine fC Tryz.func45 tv42 Tryz.ntmps45 fun w N H hG=>?_;have e0:=Hv_.eq_1 c tag queue;generalize Hv_ c tag queue=z at e0 ⊢;refine gm tv42 14 [0,1] fun B2=>?_;refine cD e0 (fun p5 e6=>?_) (fun p8 e9=>?_)
  · refine gm tv42 9 [] fun _=>?_;subst e6;exact qr2
  refine gx tv42 12 ?_;refine loop (ι:=Nat) [1,2,3,6,15,16] [0,1] (fun k=>[(17, .int .i64 (k:Int))]) (fun k=>[]) (fun k=>k<=c.takers.length/\z=C7_ c tag queue (c.takers.drop k)) (fun k=>c.takers.length-k) 0 ⟨rfl,trivial⟩ trivial ?_ ?_
  · exact⟨Nat.zero_le _,e9⟩
  rintro k ⟨hp10_1,hp10_2⟩;refine gx tv42 6 ?_;refine cn rfl (fun p12=>?_) fun p24=>?_
  · have e13:=C1_ (f:=fun zz=>C7_ c tag queue zz) hp10_2 (Fr_ (by omega)) (C7_.eq_2 _ _ _ _ _);have hc14:=getG (xs:=c.takers) (k:=k) (by omega);refine gx tv42 6 ?_;refine q1 (qidx tv42 k rfl rfl rfl hc14 rfl rfl rfl rfl) rfl fun w15=>?_;refine gm tv42 13 [2] fun B17=>?_;refine cD e13 (fun p19 e20=>?_) (fun p22 e23=>?_)
    · refine gm tv42 13 [] fun _=>?_;subst e20;exact qr2
    refine gy tv42 7 ?_;refine next (k+1) rfl rfl ⟨rfl,trivial⟩ trivial ?_ ?_
    · (try simp only[]);omega
    exact⟨by (try simp only[]);omega,e23⟩
  have e25:=C1_ (f:=fun zz=>C7_ c tag queue zz) hp10_2 (Gb_ (by omega)) (C7_.eq_1 _ _ _);refine gx tv42 14 ?_;refine cD e25 (fun p27 e28=>?_) (fun p30 e31=>?_)
  · refine gm tv42 9 [] fun _=>?_;subst e28;exact qr2
  refine gx tv42 12 ?_;refine ef (app0 2 tv42 c.takers rfl rfl rfl rfl rfl rfl rfl (src_l rfl (fun _=>rfl)) (by first|omega|(simp;omega)) rfl rfl fun u32=>?_);refine gx tv42 9 ?_;refine ef (bsl 3 L_.pc [(⟨tag,queue⟩:L_)] tv42 rfl rfl rfl rfl rfl (fun _=>rfl) rfl (by decide) (by decide) rfl fun u33=>?_);refine ef (app tv42 [(⟨tag,queue⟩:L_)] rfl rfl rfl rfl rfl rfl rfl rfl rfl (src_o rfl rfl) (by first|omega|(simp;omega)) rfl fun u34=>?_);refine gx tv42 1 ?_;refine give 2 rfl ?_;refine ef (sO tv42 ?_);refine gm tv42 10 [] fun _=>?_;subst e31;exact qr2
theorem Wz_ (c:ChanR) (tag:Int) (ht:c.takers.length<=1000:=by first|omega|(simp;omega)|decide +kernel):Fn Tryz.prog gb 47 [.agg (ChanR.pc c), .int .u64 tag] (.tup [.agg (ChanR.pc ((He_ c tag).1)), .int .i64 ((He_ c tag).2)]):=by
  refine fC Tryz.func47 tv42 Tryz.ntmps47 fun w N H hG=>?_;have e0:=He_.eq_1 c tag;generalize He_ c tag=z at e0 ⊢;refine gm tv42 22 [0,1] fun B2=>?_;refine sw_own (t:=6) (k:=2) (e:=177) 2 L_.pc rfl rfl ?_;refine loop (ι:=Nat×(List L_)×Value) [1,2,4,5,10,11] [0,1] (fun ⟨k,l,u_l⟩=>[(12, .int .i64 (k:Int)),(6, .osl 2)]) (fun ⟨k,l,u_l⟩=>[(2, .arr u_l 2 177 L_.pc l)]) (fun ⟨k,l,u_l⟩=>k<=c.takers.length/\z=Cf_ c tag (c.takers.drop k) l/\l.length<=k) (fun ⟨k,l,u_l⟩=>c.takers.length-k) ⟨0,[],(.slice none 0 0)⟩ ⟨rfl,rfl,trivial⟩ ⟨rfl,trivial⟩ ?_ ?_
  · exact⟨Nat.zero_le _,e0,(by first|omega|(simp;done)|(simp;omega))⟩
  rintro⟨k,l,u_l⟩ ⟨hp4_1,hp4_2,hp4_3⟩;refine gx tv42 6 ?_;refine cn rfl (fun p6=>?_) fun p21=>?_
  · have e7:=C1_ (f:=fun zz=>Cf_ c tag zz l) hp4_2 (Fr_ (by omega)) (Cf_.eq_2 _ _ _ _ _);have hc8:=getG (xs:=c.takers) (k:=k) (by omega);refine gx tv42 6 ?_;refine q1 (qidx tv42 k rfl rfl rfl hc8 rfl rfl rfl rfl) rfl fun w9=>?_;refine gm tv42 13 [3] fun B11=>?_;refine cN e7 (fun p14 e15=>?_) (fun p19 e20=>?_)
    · refine gx tv42 3 ?_;refine ef (bsl 4 L_.pc [(gt c.takers k)] tv42 rfl rfl rfl rfl rfl (fun _=>rfl) rfl (by decide) (by decide) rfl fun u16=>?_);refine ef (app tv42 [(gt c.takers k)] rfl rfl rfl rfl rfl rfl rfl rfl rfl (src_o rfl rfl) (by first|omega|(simp;omega)) rfl fun u17=>?_);refine gy tv42 8 ?_;refine next ⟨(k+1),(l++[(gt c.takers k)]),(u17)⟩ rfl rfl ⟨rfl,rfl,trivial⟩ ⟨rfl,trivial⟩ ?_ ?_
      · (try simp only[]);omega
      exact⟨by (try simp only[]);omega,e15,(by (try simp only[List.length_append,List.length_cons,List.length_nil,List.flatten_cons,List.flatten_nil,List.append_nil,List.length_take,List.length_drop]);omega)⟩
    refine gy tv42 7 ?_;refine next ⟨(k+1),l,(u_l)⟩ rfl rfl ⟨rfl,rfl,trivial⟩ ⟨rfl,trivial⟩ ?_ ?_
    · (try simp only[]);omega
    exact⟨by (try simp only[]);omega,e20,(by (try simp only[List.length_append,List.length_cons,List.length_nil,List.flatten_cons,List.flatten_nil,List.append_nil,List.length_take,List.length_drop]);omega)⟩
  have e22:=C1_ (f:=fun zz=>Cf_ c tag zz l) hp4_2 (Gb_ (by omega)) (Cf_.eq_1 _ _ _);refine gx tv42 16 ?_;refine cD e22 (fun p24 e25=>?_) (fun p27 e28=>?_)
  · refine gm tv42 9 [] fun _=>?_;subst e25;exact qr2
  refine gx tv42 6 ?_;refine give 2 rfl ?_;refine ef (sO tv42 ?_);refine gm tv42 10 [] fun _=>?_;subst e28;exact qr2
theorem Zi_ (c:ChanR) (x:LentR) (hn:c.lent.length<=10000000:=by first|omega|(simp;omega)|decide +kernel):Fn Tryz.prog gb 48 [.agg (ChanR.pc c), .agg (LentR.pc x)] (.agg (ChanR.pc (Is_ c x))):=by
  refine fC Tryz.func48 tv42 Tryz.ntmps48 fun w N H hG=>?_;have e0:=Is_.eq_1 c x;refine gm tv42 17 [0,1,2] fun B2=>?_;refine ef (app0 3 tv42 c.lent rfl rfl rfl rfl rfl rfl rfl (src_l rfl (fun _=>rfl)) (by first|omega|(simp;omega)) rfl rfl fun u5=>?_);refine gx tv42 7 ?_;refine ef (bsl 4 LentR.pc [x] tv42 rfl rfl rfl rfl rfl (fun _=>rfl) rfl (by decide) (by decide) rfl fun u6=>?_);refine ef (app tv42 [x] rfl rfl rfl rfl rfl rfl rfl rfl rfl (src_o rfl rfl) (by first|omega|(simp;omega)) rfl fun u7=>?_);refine gx tv42 1 ?_;refine give 3 rfl ?_;refine ef (sO tv42 ?_);refine gm tv42 9 [] fun _=>?_;exact rt1 rfl rfl (Au_ (fun r:ChanR=> .agg (ChanR.pc r)) e0 (ple rfl))
theorem Yw_ (c:ChanR) (hn:c.lent.length<=10000000:=by first|omega|(simp;omega)|decide +kernel):Fn Tryz.prog gb 138 [.agg (ChanR.pc c)] (.sl LentR.pc (In_ c)):=by
  refine fC Tryz.func138 tv42 Tryz.ntmps138 fun w N H hG=>?_;have e0:=In_.eq_1 c;refine gm tv42 21 [0] fun B2=>?_;refine sw_own (t:=3) (k:=2) (e:=126) 1 LentR.pc rfl rfl ?_;refine loop (ι:=Nat×(List LentR)×Value) [1,2,7,8] [0] (fun ⟨k,out,u_out⟩=>[(9, .int .i64 (k:Int)),(3, .osl 1)]) (fun ⟨k,out,u_out⟩=>[(1, .arr u_out 2 126 LentR.pc out)]) (fun ⟨k,out,u_out⟩=>k<=c.lent.length/\In_ c=De_ c (c.lent.drop k) out/\out.length<=k) (fun ⟨k,out,u_out⟩=>c.lent.length-k) ⟨0,[],(.slice none 0 0)⟩ ⟨rfl,rfl,trivial⟩ ⟨rfl,trivial⟩ ?_ ?_
  · exact⟨Nat.zero_le _,e0,(by first|omega|(simp;done)|(simp;omega))⟩
  rintro⟨k,out,u_out⟩ ⟨hp3_1,hp3_2,hp3_3⟩;refine gx tv42 6 ?_;refine cn rfl (fun p5=>?_) fun p19=>?_
  · have e6:=C1_ (f:=fun zz=>De_ c zz out) hp3_2 (Fr_ (by omega)) (De_.eq_2 _ _ _ _);have hc7:=getG (xs:=c.lent) (k:=k) (by omega);refine gx tv42 6 ?_;refine q1 (qidx tv42 k rfl rfl rfl hc7 rfl rfl rfl rfl) rfl fun w8=>?_;refine gm tv42 13 [2] fun B10=>?_;refine call (Lo_ _ _ _) rfl rfl fun w11=>?_;refine gx tv42 3 ?_;refine cE e6 (fun h12 e14=>?_) (fun h12 e18=>?_)
    · have h13:=Br_ h12;refine gx tv42 3 ?_;refine ef (bsl 3 LentR.pc [(gt c.lent k)] tv42 rfl rfl rfl rfl rfl (fun _=>rfl) rfl (by decide) (by decide) rfl fun u15=>?_);refine ef (app tv42 [(gt c.lent k)] rfl rfl rfl rfl rfl rfl rfl rfl rfl (src_o rfl rfl) (by first|omega|(simp;omega)) rfl fun u16=>?_);refine gy tv42 8 ?_;refine next ⟨(k+1),(out++[(gt c.lent k)]),(u16)⟩ rfl rfl ⟨rfl,rfl,trivial⟩ ⟨rfl,trivial⟩ ?_ ?_
      · (try simp only[]);omega
      exact⟨by (try simp only[]);omega,e14,(by (try simp only[List.length_append,List.length_cons,List.length_nil,List.flatten_cons,List.flatten_nil,List.append_nil,List.length_take,List.length_drop]);omega)⟩
    have h17:=Bf_ h12;refine gy tv42 7 ?_;refine next ⟨(k+1),out,(u_out)⟩ rfl rfl ⟨rfl,rfl,trivial⟩ ⟨rfl,trivial⟩ ?_ ?_
    · (try simp only[]);omega
    exact⟨by (try simp only[]);omega,e18,(by (try simp only[List.length_append,List.length_cons,List.length_nil,List.flatten_cons,List.flatten_nil,List.append_nil,List.length_take,List.length_drop]);omega)⟩
  have e20:=C1_ (f:=fun zz=>De_ c zz out) hp3_2 (Gb_ (by omega)) (De_.eq_1 _ _);refine gx tv42 11 ?_;refine givec 1 rfl ?_;refine gx tv42 1 ?_;exact rt1 rfl rfl (Au_ (fun r:(List LentR)=> .sl LentR.pc r) e20 (ple rfl))
abbrev R2_:(Ap_×Int)->PV:=fun r=> .tup [.agg (Ap_.pc r.1), .int .i64 r.2]
abbrev R3_:(List LentR)->PV:=fun r=> .sl LentR.pc r
abbrev R4_:((List DeedR)×Int)->PV:=fun r=> .tup [.sl DeedR.pc r.1, .int .i64 r.2]
abbrev R5_:(List DeedR)->PV:=fun r=> .sl DeedR.pc r
theorem cb151:Ah_ Tryz.prog 151:=Z_ Tryz.func151 (by kernel_rfl) (by kernel_rfl)
def tbv43:Tb:=[(4,ty4),(5,ty5),(9,ty9),(27,ty27),(30,ty30),(32,ty32),(53,ty53),(56,ty56),(57,ty57),(59,ty59),(126,ty126),(184,Y3_)]
theorem tv43:tbB Tryz.prog tbv43=true:=by kernel_rfl
theorem El_ (c:ChanR) (l:List DeedR) (hx:c.held.l.length<=1000:=by first|omega|(simp;omega)|decide +kernel):Fn Tryz.prog gb 56 [.agg (ChanR.pc c), .sl DeedR.pc l] (.tup [.agg (ChanR.pc ((Af_ c l).1)), .int .i64 ((Af_ c l).2)]):=by
  refine fC Tryz.func56 tv43 Tryz.ntmps56 fun w N H hG=>?_;have e0:=Af_.eq_1 c l;generalize Af_ c l=z at e0 ⊢;refine gm tv43 15 [0,1] fun B2=>?_;refine cE e0 (fun h4 e6=>?_) (fun h4 e9=>?_)
  · have h5:=Br_ h4;refine gm tv43 9 [] fun _=>?_;subst e6;exact qr2
  have h8:=Bf_ h4;refine gx tv43 7 ?_;refine cV e9 R2_ (Ne_ _ _) rfl fun r hr10 e12 w11=>?_;have hA12:=add_dok c.held l
  (try rw[<- hr10] at hA12)
  (try have hA12b:=hA12 (by first|assumption|omega|exact Mc_|(simp;done)))
  (try have hA12c:=hA12b)
  (try obtain⟨hA12d0,hA12d1,hA12d2⟩:=hA12c)
  refine gm tv43 24 [2] fun B15=>?_;subst e12;exact qr2
theorem M4_ (c:ChanR) (tick:Int) (hx:c.held.l.length<=1000:=by first|omega|(simp;omega)|decide +kernel) (hh:∀ d∈c.held.l,d.mail.head.length<=1000000:=by assumption):Fo Tryz.prog gb 151 [.agg (ChanR.pc c), .int .u64 tick] (fun u=> .tup [.val u, .int .i64 ((A4_ c tick).2)]) 29 53 DeedR.pc ((A4_ c tick).1):=by
  refine Ro_ tv43 Tryz.func151 rfl Tryz.ntmps151 rfl cb151 (fun _=>rfl) rfl fun w N H hG=>?_;have e0:=A4_.eq_1 c tick;refine gm tv43 15 [0] fun B2=>?_;refine cE e0 (fun h3 e5=>?_) (fun h3 e7=>?_)
  · have h4:=Br_ h3;refine gx tv43 6 ?_;refine sw_own (t:=4) (k:=29) (e:=53) 1 DeedR.pc rfl rfl ?_;refine sw_val (t:=4) (i:=1) rfl rfl ?_;refine gx tv43 2 ?_;refine roN (j:=1) (.slice none 0 0) rfl rfl rfl rfl ?_ ?_
    · exact (congrArg (fun r:(List DeedR)×Int=>r.1) e5).symm
    exact Au_ (fun r:(List DeedR)×Int=> .tup [.val (.slice none 0 0), .int .i64 r.2]) e5 (ple rfl)
  have h6:=Bf_ h3;refine gx tv43 7 ?_;refine ef (ecallo 1 (Nu_ _ _) rfl rfl ?_);generalize hr10:Ct_ c.held tick=r;intro u9 w8;have e11:=e7.trans (Aq_ hr10.symm);have hr10:=hr10.symm;have hA11:=at_len c.held tick
  (try rw[<- hr10] at hA11)
  refine gx tv43 4 ?_;refine gx tv43 1 ?_;refine roN (j:=1) u9 rfl rfl rfl rfl ?_ ?_
  · exact (congrArg (fun r:(List DeedR)×Int=>r.1) e11).symm
  exact Au_ (fun r:(List DeedR)×Int=> .tup [.val u9, .int .i64 r.2]) e11 (ple rfl)
theorem Ll_ (c:ChanR) (id:Int) (how:Int) (upto:Bool) (hn:c.lent.length<=10000000:=by first|omega|(simp;omega)|decide +kernel):Fn Tryz.prog gb 97 [.agg (ChanR.pc c), .int .u64 id, .int .u64 how, .bool upto] (.tup [.sl DeedR.pc ((Er_ c id how upto).1), .int .i64 ((Er_ c id how upto).2)]):=by
  refine fC Tryz.func97 tv43 Tryz.ntmps97 fun w N H hG=>?_;have e0:=Er_.eq_1 c id how upto;generalize Er_ c id how upto=z at e0 ⊢;refine gm tv43 14 [0] fun B2=>?_;refine cD e0 (fun p4 e5=>?_) (fun p6 e7=>?_)
  · refine gx tv43 8 ?_;subst e5;exact rt2 rfl rfl (Ba_ (B_ Ak_ (B_ (ple rfl) Ag_)))
  refine gx tv43 11 ?_;refine cV e7 R3_ (Yw_ _) rfl fun r hr8 e10 w9=>?_;have hA10:=open_len c
  (try rw[<- hr8] at hA10)
  refine gx tv43 5 ?_;refine sw_own (t:=10) (k:=29) (e:=184) 1 DeedR.pc rfl rfl ?_;refine loop (ι:=Nat×(List DeedR)×Value) [1,2,3,17,18] [0] (fun ⟨k,out,u_out⟩=>[(19, .int .i64 (k:Int)),(10, .osl 1)]) (fun ⟨k,out,u_out⟩=>[(1, .arr u_out 29 184 DeedR.pc out)]) (fun ⟨k,out,u_out⟩=>k<=r.length/\z=B7_ id how upto (r.drop k) out/\out.length<=k) (fun ⟨k,out,u_out⟩=>r.length-k) ⟨0,[],(.slice none 0 0)⟩ ⟨rfl,rfl,trivial⟩ ⟨rfl,trivial⟩ ?_ ?_
  · exact⟨Nat.zero_le _,e10,(by first|omega|(simp;done)|(simp;omega))⟩
  rintro⟨k,out,u_out⟩ ⟨hp12_1,hp12_2,hp12_3⟩;refine gx tv43 6 ?_;refine cn rfl (fun p14=>?_) fun p33=>?_
  · have e15:=C1_ (f:=fun zz=>B7_ id how upto zz out) hp12_2 (Fr_ (by omega)) (B7_.eq_2 _ _ _ _ _ _);have hc16:=getG (xs:=r) (k:=k) (by omega);refine gx tv43 6 ?_;refine q1 (qidx tv43 k rfl rfl rfl hc16 rfl rfl rfl rfl) rfl fun w17=>?_;refine gm tv43 27 [2,3] fun B19=>?_;refine cD e15 (fun p22 e23=>?_) (fun p26 e27=>?_)
    · refine gx tv43 4 ?_;refine ef (bsl 4 DeedR.pc [(⟨8,0,(⟨[],0,[]⟩:ShopR),(⟨[],0,0,[]⟩:Aa_),(⟨[],[],false,[],[],false⟩:BindR),(gt r k).queue,(gt r k).id,(IntKind.wrap .u8 how),0,0,0,(⟨0,[],[],[],[],0,0⟩:Mail),[]⟩:DeedR)] tv43 rfl rfl rfl rfl rfl (fun _=>rfl) rfl (by decide) (by decide) rfl fun u24=>?_);refine ef (app tv43 [(⟨8,0,(⟨[],0,[]⟩:ShopR),(⟨[],0,0,[]⟩:Aa_),(⟨[],[],false,[],[],false⟩:BindR),(gt r k).queue,(gt r k).id,(IntKind.wrap .u8 how),0,0,0,(⟨0,[],[],[],[],0,0⟩:Mail),[]⟩:DeedR)] rfl rfl rfl rfl rfl rfl rfl rfl rfl (src_o rfl rfl) (by first|omega|(simp;omega)) rfl fun u25=>?_);refine gx tv43 4 ?_;refine givec 1 rfl ?_;refine gx tv43 7 ?_;subst e23;exact qr2
    refine gx tv43 7 ?_;refine cE e27 (fun h28 e29=>?_) (fun h28 e32=>?_)
    · refine gx tv43 3 ?_;refine ef (bsl 4 DeedR.pc [(⟨8,0,(⟨[],0,[]⟩:ShopR),(⟨[],0,0,[]⟩:Aa_),(⟨[],[],false,[],[],false⟩:BindR),(gt r k).queue,(gt r k).id,(IntKind.wrap .u8 how),0,0,0,(⟨0,[],[],[],[],0,0⟩:Mail),[]⟩:DeedR)] tv43 rfl rfl rfl rfl rfl (fun _=>rfl) rfl (by decide) (by decide) rfl fun u30=>?_);refine ef (app tv43 [(⟨8,0,(⟨[],0,[]⟩:ShopR),(⟨[],0,0,[]⟩:Aa_),(⟨[],[],false,[],[],false⟩:BindR),(gt r k).queue,(gt r k).id,(IntKind.wrap .u8 how),0,0,0,(⟨0,[],[],[],[],0,0⟩:Mail),[]⟩:DeedR)] rfl rfl rfl rfl rfl rfl rfl rfl rfl (src_o rfl rfl) (by first|omega|(simp;omega)) rfl fun u31=>?_);refine gy tv43 8 ?_;refine next ⟨(k+1),(out++[(⟨8,0,(⟨[],0,[]⟩:ShopR),(⟨[],0,0,[]⟩:Aa_),(⟨[],[],false,[],[],false⟩:BindR),(gt r k).queue,(gt r k).id,(IntKind.wrap .u8 how),0,0,0,(⟨0,[],[],[],[],0,0⟩:Mail),[]⟩:DeedR)]),(u31)⟩ rfl rfl ⟨rfl,rfl,trivial⟩ ⟨rfl,trivial⟩ ?_ ?_
      · (try simp only[]);omega
      exact⟨by (try simp only[]);omega,e29,(by (try simp only[List.length_append,List.length_cons,List.length_nil,List.flatten_cons,List.flatten_nil,List.append_nil,List.length_take,List.length_drop]);omega)⟩
    refine gy tv43 7 ?_;refine next ⟨(k+1),out,(u_out)⟩ rfl rfl ⟨rfl,rfl,trivial⟩ ⟨rfl,trivial⟩ ?_ ?_
    · (try simp only[]);omega
    exact⟨by (try simp only[]);omega,e32,(by (try simp only[List.length_append,List.length_cons,List.length_nil,List.flatten_cons,List.flatten_nil,List.append_nil,List.length_take,List.length_drop]);omega)⟩
  have e34:=C1_ (f:=fun zz=>B7_ id how upto zz out) hp12_2 (Gb_ (by omega)) (B7_.eq_1 _ _ _ _);refine gx tv43 12 ?_;subst e34;exact rt2 rfl rfl (Ba_ (B_ Ak_ (B_ (ple rfl) Ag_)))
theorem Qn_ (c:ChanR) (l:List DeedR) (hn:c.lent.length<=10000000:=by first|omega|(simp;omega)|decide +kernel):Fn Tryz.prog gb 98 [.agg (ChanR.pc c), .sl DeedR.pc l] (.agg (ChanR.pc (Ir_ c l))):=by
  refine fC Tryz.func98 tv43 Tryz.ntmps98 fun w N H hG=>?_;have c_takers_l:c.takers.length<=140737488355328:=w.1.2.1.1;have c_lent_l:c.lent.length<=140737488355328:=w.1.2.2.1.1;have c_held_l_l:c.held.l.length<=140737488355328:=w.1.2.2.2.2.2.2.1.1;have l_l:l.length<=140737488355328:=w.2.1.1;have e0:=Ir_.eq_1 c l;refine gm tv43 15 [0,1] fun B2=>?_;refine loop (ι:=Nat×ChanR) [2,4,11,12] [1] (fun ⟨k,x⟩=>[(13, .int .i64 (k:Int))]) (fun ⟨k,x⟩=>[(0, .box (B2 0) 59 (ChanR.pc x))]) (fun ⟨k,x⟩=>k<=l.length/\Ir_ c l=Ef_ (l.drop k) x/\x.lent.length<=10000000) (fun ⟨k,x⟩=>l.length-k) ⟨0,c⟩ ⟨rfl,trivial⟩ ⟨rfl,trivial⟩ ?_ ?_
  · exact⟨Nat.zero_le _,e0,(by first|omega|(simp;done)|(simp;omega))⟩
  rintro⟨k,x⟩ ⟨hp4_1,hp4_2,hp4_3⟩;refine gx tv43 6 ?_;refine cn rfl (fun p6=>?_) fun p43=>?_
  · have e7:=C1_ (f:=fun zz=>Ef_ zz x) hp4_2 (Fr_ (by omega)) (Ef_.eq_2 _ _ _);refine gx tv43 3 ?_;obtain⟨o,e_o,q_o⟩:=Cc_ e7;refine Dv_ (ι:=ChanR) [2,4,11,12,13] [1] (fun x1=>[]) (fun x1=>[(0, .box (B2 0) 59 (ChanR.pc x1))]) (fun x1=>o=x1/\x1.lent.length<=10000000) ?_ ?_
    · have hc8:=getG (xs:=l) (k:=k) (by omega);refine gx tv43 3 ?_;refine q1 (qidx tv43 k rfl rfl rfl hc8 rfl rfl rfl rfl) rfl fun w9=>?_;refine gm tv43 13 [2] fun B11=>?_;refine cN e_o (fun p14 e15=>?_) (fun p17 e18=>?_)
      · refine gx tv43 3 ?_;refine nX x ?_ trivial ⟨rfl,trivial⟩;exact⟨e15,(by (try simp only[List.length_append,List.length_cons,List.length_nil,List.flatten_cons,List.flatten_nil,List.append_nil,List.length_take,List.length_drop]);omega)⟩
      refine gx tv43 22 ?_;refine sw_own (t:=7) (k:=2) (e:=126) 3 LentR.pc rfl rfl ?_;refine loop (ι:=Nat×(List LentR)×Bool×Value) [2,4,6,11,12,13,21,22] [0,1,2] (fun ⟨k1,left,done,u_left⟩=>[(23, .int .i64 (k1:Int)),(7, .osl 3),(8, .bool done)]) (fun ⟨k1,left,done,u_left⟩=>[(3, .arr u_left 2 126 LentR.pc left)]) (fun ⟨k1,left,done,u_left⟩=>k1<=x.lent.length/\o=B2_ x (gt l k) (x.lent.drop k1) left done /\ left.length<=k1) (fun ⟨k1,left,done,u_left⟩=>x.lent.length-k1) ⟨0,[],false,(.slice none 0 0)⟩ ⟨rfl,rfl,rfl,trivial⟩ ⟨rfl,trivial⟩ ?_ ?_
      · exact⟨Nat.zero_le _,e18,(by first|omega|(simp;done)|(simp;omega))⟩
      rintro⟨k1,left,done,u_left⟩ ⟨hp19_1,hp19_2,hp19_3⟩;refine gx tv43 6 ?_;refine cn rfl (fun p21=>?_) fun p39=>?_
      · have e22:=C1_ (f:=fun zz=>B2_ x (gt l k) zz left done) hp19_2 (Fr_ (by omega)) (B2_.eq_2 _ _ _ _ _ _);have hc23:=getG (xs:=x.lent) (k:=k1) (by omega);refine gx tv43 6 ?_;refine q1 (qidx tv43 k1 rfl rfl rfl hc23 rfl rfl rfl rfl) rfl fun w24=>?_;refine gmy tv43 25 [4] fun B26=>?_;refine cE e22 (fun h27 e35=>?_) (fun h27 e36=>?_)
        · have h28:=bl h27;have h29:=bl h28;have h30:=Br_ h29;have h31:=br h28;have p32:=dt h31;have h33:=br h27;have p34:=dt h33;refine gy tv43 9 ?_;refine next ⟨(k1+1),left,true,(u_left)⟩ rfl rfl ⟨rfl,rfl,rfl,trivial⟩ ⟨rfl,trivial⟩ ?_ ?_
          · (try simp only[]);omega
          exact⟨by (try simp only[]);omega,e35,(by (try simp only[List.length_append,List.length_cons,List.length_nil,List.flatten_cons,List.flatten_nil,List.append_nil,List.length_take,List.length_drop]);omega)⟩
        refine gx tv43 3 ?_;refine ef (bsl 5 LentR.pc [(gt x.lent k1)] tv43 rfl rfl rfl rfl rfl (fun _=>rfl) rfl (by decide) (by decide) rfl fun u37=>?_);refine ef (app tv43 [(gt x.lent k1)] rfl rfl rfl rfl rfl rfl rfl rfl rfl (src_o rfl rfl) (by first|omega|(simp;omega)) rfl fun u38=>?_);refine gy tv43 8 ?_;refine next ⟨(k1+1),(left ++ [(gt x.lent k1)]),done,(u38)⟩ rfl rfl ⟨rfl,rfl,rfl,trivial⟩ ⟨rfl,trivial⟩ ?_ ?_
        · (try simp only[]);omega
        exact⟨by (try simp only[]);omega,e36,(by (try simp only[List.length_append,List.length_cons,List.length_nil,List.flatten_cons,List.flatten_nil,List.append_nil,List.length_take,List.length_drop]);omega)⟩
      have e40:=C1_ (f:=fun zz=>B2_ x (gt l k) zz left done) hp19_2 (Gb_ (by omega)) (B2_.eq_1 _ _ _ _);refine gx tv43 8 ?_;refine give 3 rfl ?_;refine ef (sO tv43 ?_);refine gx tv43 2 ?_;refine nX (⟨x.credit,x.takers,left,x.sure,x.drafts,x.puts,x.held⟩:ChanR) ?_ trivial ⟨rfl,trivial⟩;exact⟨e40,(by (try simp only[List.length_append,List.length_cons,List.length_nil,List.flatten_cons,List.flatten_nil,List.append_nil,List.length_take,List.length_drop]);omega)⟩
    rintro x1 ⟨hp41,hp41_3⟩;have e42:=D5_ q_o hp41;refine gy tv43 5 ?_;refine next ⟨(k+1),x1⟩ rfl rfl ⟨rfl,trivial⟩ ⟨rfl,trivial⟩ ?_ ?_
    · (try simp only[]);omega
    exact⟨by (try simp only[]);omega,e42,(by (try simp only[List.length_append,List.length_cons,List.length_nil,List.flatten_cons,List.flatten_nil,List.append_nil,List.length_take,List.length_drop]);omega)⟩
  have e44:=C1_ (f:=fun zz=>Ef_ zz x) hp4_2 (Gb_ (by omega)) (Ef_.eq_1 _);refine gm tv43 12 [] fun _=>?_;exact rt1 rfl rfl (Au_ (fun r:ChanR=> .agg (ChanR.pc r)) e44 (ple rfl))
theorem Qh_ (c:ChanR) (l:List DeedR) (hx:c.held.l.length<=1000:=by first|omega|(simp;omega)|decide +kernel):Fn Tryz.prog gb 57 [.agg (ChanR.pc c), .sl DeedR.pc l] (.tup [.agg (ChanR.pc ((G8_ c l).1)), .int .i64 ((G8_ c l).2)]):=by
  refine fC Tryz.func57 tv43 Tryz.ntmps57 fun w N H hG=>?_;have e0:=G8_.eq_1 c l;generalize G8_ c l=z at e0 ⊢;refine gm tv43 15 [0,1] fun B2=>?_;refine cE e0 (fun h4 e6=>?_) (fun h4 e9=>?_)
  · have h5:=Br_ h4;refine gm tv43 9 [] fun _=>?_;subst e6;exact qr2
  have h8:=Bf_ h4;refine gx tv43 7 ?_;refine cV e9 R4_ (r26_Add_ok _ _) rfl fun r hr10 e12 w11=>?_;have hA12:=radd_len c.held.l l
  (try rw[<- hr10] at hA12)
  (try have hA12b:=hA12 (by first|assumption|omega|exact Mc_|(simp;done)))
  refine gm tv43 23 [] fun _=>?_;subst e12;exact qr2
theorem Yk_ (c:ChanR) (tick:Int) (hx:c.held.l.length<=1000:=by first|omega|(simp;omega)|decide +kernel):Fn Tryz.prog gb 210 [.agg (ChanR.pc c), .int .u64 tick] (.tup [.sl DeedR.pc ((Jy_ c tick).1), .int .i64 ((Jy_ c tick).2)]):=by
  refine fC Tryz.func210 tv43 Tryz.ntmps210 fun w N H hG=>?_;have e0:=Jy_.eq_1 c tick;generalize Jy_ c tick=z at e0 ⊢;refine gm tv43 15 [0] fun B2=>?_;refine cE e0 (fun h3 e5=>?_) (fun h3 e7=>?_)
  · have h4:=Br_ h3;refine gx tv43 8 ?_;subst e5;exact rt2 rfl rfl (Ba_ (B_ Ak_ (B_ (ple rfl) Ag_)))
  have h6:=Bf_ h3;refine gx tv43 7 ?_;refine cV e7 R5_ (r26_At_ok _ _) rfl fun r hr8 e10 w9=>?_;refine gx tv43 5 ?_;subst e10;exact qr2
def tbv47:Tb:=[(9,ty9),(32,ty32),(39,ty39),(44,ty44),(49,ty49),(53,ty53),(200,Um_),(342,ty342)]
theorem tv47:tbB Tryz.prog tbv47=true:=by kernel_rfl
theorem l14_awake:Fn Tryz.prog gb 241 [] (.bool true):=by
  refine fC Tryz.func241 tv47 Tryz.ntmps241 fun w N H hG=>?_;refine gx tv47 9 ?_;refine call (M3_ (⟨[],[]⟩:BookR) (⟨[97],1,[]⟩:ShopR)) rfl rfl fun w1=>?_;refine gm tv47 12 [0] fun B3=>?_;refine call (Iq_ _ (⟨[97],[113],false,[],[],false⟩:BindR)) rfl rfl fun w4=>?_;refine gm tv47 10 [] fun _=>?_;refine call (Iq_ _ (⟨[97],[113],false,[120],[],false⟩:BindR)) rfl rfl fun w6=>?_;refine gm tv47 10 [] fun _=>?_;refine call (Fn.le (Lt_ _ _ _ []) (B_ (ple rfl) (B_ (ple rfl) (B_ (ple rfl) (B_ Ak_ Ag_)))) (ple rfl) rfl) rfl rfl fun w8=>?_;refine gx tv47 11 ?_;refine call Pl_ rfl rfl fun w9=>?_;refine gx tv47 1 ?_;refine ungd rfl rfl ?_;refine call Xw_ rfl rfl fun w10=>?_;refine gx tv47 2 ?_;refine ungd rfl rfl ?_;refine gx tv47 1 ?_;refine ungd rfl rfl ?_;refine gx tv47 1 ?_;refine so_rt (t:=37) (p':= .bool true) (ple (congrArg PV.bool (show decide (((B3_ ((B3_ ((Dq_ (⟨[],[]⟩:BookR) (⟨[97],1,[]⟩:ShopR)).1) (⟨[97],[113],false,[],[],false⟩:BindR)).1) (⟨[97],[113],false,[120],[],false⟩:BindR)).2)=0)=true by decide +kernel))) rfl ?_;refine gx tv47 2 ?_;refine ungd rfl rfl ?_;refine gx tv47 1 ?_;refine ungd rfl rfl ?_;refine gx tv47 1 ?_;refine so_rt (t:=41) (p':= .bool true) (ple (congrArg PV.bool (show decide (((Dh_ ((B3_ ((B3_ ((Dq_ (⟨[],[]⟩:BookR) (⟨[97],1,[]⟩:ShopR)).1) (⟨[97],[113],false,[],[],false⟩:BindR)).1) (⟨[97],[113],false,[120],[],false⟩:BindR)).1) [97] [] []).2.2)=0)=true by decide +kernel))) rfl ?_;refine gx tv47 2 ?_;refine ungd rfl rfl ?_;refine gx tv47 1 ?_;refine ungd rfl rfl ?_;refine ef (bsl 1 strc [[113]] tv47 rfl rfl rfl rfl rfl (fun _=>rfl) rfl (by decide) (by decide) rfl fun u11=>?_);refine ungd rfl rfl ?_;refine ef (calll 1 rfl (eq_Str _ _) rfl rfl rfl fun w12=>?_);refine so_rt (t:=46) (p':= .bool true) (ple (congrArg PV.bool (show decide (((Dh_ ((B3_ ((B3_ ((Dq_ (⟨[],[]⟩:BookR) (⟨[97],1,[]⟩:ShopR)).1) (⟨[97],[113],false,[],[],false⟩:BindR)).1) (⟨[97],[113],false,[120],[],false⟩:BindR)).1) [97] [] []).1)=[[113]])=true by decide +kernel))) rfl ?_;refine gx tv47 2 ?_;refine ungd rfl rfl ?_;refine gx tv47 1 ?_;refine ungd rfl rfl ?_;refine gx tv47 1 ?_;refine ungd rfl rfl ?_;refine gx tv47 1 ?_;refine so_rt (t:=51) (p':= .bool true) (ple (congrArg PV.bool (show decide ((((Dh_ ((B3_ ((B3_ ((Dq_ (⟨[],[]⟩:BookR) (⟨[97],1,[]⟩:ShopR)).1) (⟨[97],[113],false,[],[],false⟩:BindR)).1) (⟨[97],[113],false,[120],[],false⟩:BindR)).1) [97] [] []).2.1).length:Int)=0)=true by decide +kernel))) rfl ?_;refine gx tv47 5 ?_;refine rt1 rfl rfl (ple ?_);exact congrArg PV.bool (by first|rfl|decide +kernel)
theorem l14_Awake:Fn Tryz.prog gb 214 [] (.bool true):=by
  refine fC Tryz.func214 tv47 Tryz.ntmps214 fun w N H hG=>?_;refine gx tv47 7 ?_;refine call l14_awake rfl rfl fun w1=>?_;refine gx tv47 4 ?_;refine rt1 rfl rfl (ple ?_)
  rfl
theorem l22_awake:Fn Tryz.prog gb 174 [] (.bool true):=by
  refine fC Tryz.func174 tv47 Tryz.ntmps174 fun w N H hG=>?_;refine gx tv47 8 ?_;refine call (deed_Bytes (⟨11,1,(⟨[],0,[]⟩:ShopR),(⟨[],0,0,[]⟩:Aa_),(⟨[],[],false,[],[],false⟩:BindR),[],0,0,0,0,0,(⟨0,[],[],[],[],0,0⟩:Mail),[]⟩:DeedR)) rfl rfl fun w1=>?_;have :=Uf_ (d:=(⟨11,1,(⟨[],0,[]⟩:ShopR),(⟨[],0,0,[]⟩:Aa_),(⟨[],[],false,[],[],false⟩:BindR),[],0,0,0,0,0,(⟨0,[],[],[],[],0,0⟩:Mail),[]⟩:DeedR)) (by first|omega|decide);have :=Ti_ (⟨11,1,(⟨[],0,[]⟩:ShopR),(⟨[],0,0,[]⟩:Aa_),(⟨[],[],false,[],[],false⟩:BindR),[],0,0,0,0,0,(⟨0,[],[],[],[],0,0⟩:Mail),[]⟩:DeedR);refine gx tv47 9 ?_;refine call l13_Awake rfl rfl fun w2=>?_;refine gx tv47 1 ?_;refine ungd rfl rfl ?_;refine call l14_Awake rfl rfl fun w3=>?_;refine gx tv47 2 ?_;refine ungd rfl rfl ?_;refine gx tv47 1 ?_;refine ungd rfl rfl ?_;refine gx tv47 1 ?_;refine so_rt (t:=14) (p':= .bool true) (ple (congrArg PV.bool (show decide ((B9_ (⟨11,1,(⟨[],0,[]⟩:ShopR),(⟨[],0,0,[]⟩:Aa_),(⟨[],[],false,[],[],false⟩:BindR),[],0,0,0,0,0,(⟨0,[],[],[],[],0,0⟩:Mail),[]⟩:DeedR))=0)=true by decide +kernel))) rfl ?_;refine gx tv47 2 ?_;refine ungd rfl rfl ?_;refine gx tv47 1 ?_;refine ungd rfl rfl ?_;refine gx tv47 1 ?_;refine ungd rfl rfl ?_;refine gx tv47 1 ?_;refine so_rt (t:=19) (p':= .bool true) (ple (congrArg PV.bool (show decide (((Aw_ (⟨11,1,(⟨[],0,[]⟩:ShopR),(⟨[],0,0,[]⟩:Aa_),(⟨[],[],false,[],[],false⟩:BindR),[],0,0,0,0,0,(⟨0,[],[],[],[],0,0⟩:Mail),[]⟩:DeedR)).length:Int)=9)=true by decide +kernel))) rfl ?_;refine gx tv47 5 ?_;refine rt1 rfl rfl (ple ?_);exact congrArg PV.bool (by first|rfl|decide +kernel)
theorem l22_Awake:Fn Tryz.prog gb 133 [] (.bool true):=by
  refine fC Tryz.func133 tv47 Tryz.ntmps133 fun w N H hG=>?_;refine gx tv47 7 ?_;refine call l22_awake rfl rfl fun w1=>?_;refine gx tv47 4 ?_;refine rt1 rfl rfl (ple ?_)
  rfl
theorem l26_awake:Fn Tryz.prog gb 91 [] (.bool true):=by
  refine fC Tryz.func91 tv47 Tryz.ntmps91 fun w N H hG=>?_;refine gx tv47 7 ?_;refine call l22_Awake rfl rfl fun w1=>?_;refine gx tv47 1 ?_;refine ungd rfl rfl ?_;refine call (K9_ _ _) rfl rfl fun w2=>?_;refine ungd rfl rfl ?_;refine gx tv47 1 ?_;refine so_rt (t:=4) (p':= .bool true) (ple (congrArg PV.bool (show decide ((Gc_ 3 4)=7)=true by decide +kernel))) rfl ?_;refine gx tv47 2 ?_;refine ungd rfl rfl ?_;refine call (K9_ _ _) rfl rfl fun w3=>?_;refine ungd rfl rfl ?_;refine gx tv47 1 ?_;refine so_rt (t:=8) (p':= .bool true) (ple (congrArg PV.bool (show decide ((Gc_ 18446744073709551615 1)=0)=true by decide +kernel))) rfl ?_;refine gx tv47 5 ?_;refine rt1 rfl rfl (ple ?_);exact congrArg PV.bool (by first|rfl|decide +kernel)
theorem l26_Awake:Fn Tryz.prog gb 37 [] (.bool true):=by
  refine fC Tryz.func37 tv47 Tryz.ntmps37 fun w N H hG=>?_;refine gx tv47 7 ?_;refine call l26_awake rfl rfl fun w1=>?_;refine gx tv47 4 ?_;refine rt1 rfl rfl (ple ?_)
  rfl
theorem l27_awake:Fn Tryz.prog gb 7 [] (.bool true):=by
  refine fC Tryz.func7 tv47 Tryz.ntmps7 fun w N H hG=>?_;refine gx tv47 7 ?_;refine call Oj_ rfl rfl fun w1=>?_;refine call (Hq_ _ _) rfl rfl fun w2=>?_;refine gm tv47 10 [0] fun B4=>?_;refine call l26_Awake rfl rfl fun w5=>?_;refine gx tv47 1 ?_;refine ungd rfl rfl ?_;refine gx tv47 1 ?_;refine ungd rfl rfl ?_;refine gx tv47 1 ?_;refine so_rt (t:=11) (p':= .bool true) (ple (congrArg PV.bool (show decide (((Ae_ (Cz_) 1).2)=0)=true by decide +kernel))) rfl ?_;refine gx tv47 2 ?_;refine ungd rfl rfl ?_;refine gx tv47 1 ?_;refine ungd rfl rfl ?_;refine call (Fo_ _) rfl rfl fun w6=>?_;refine ungd rfl rfl ?_;refine gx tv47 1 ?_;refine so_rt (t:=16) (p':= .bool true) (ple (congrArg PV.bool (show decide ((Ar_ ((Ae_ (Cz_) 1).1))=1)=true by decide +kernel))) rfl ?_;refine gx tv47 2 ?_;refine ungd rfl rfl ?_;refine gx tv47 1 ?_;refine ungd rfl rfl ?_;refine gx tv47 1 ?_;refine ungd rfl rfl ?_;refine call (Ik_ _ (⟨1,[113]⟩:LentR)) rfl rfl fun w7=>?_;refine ungd rfl rfl ?_;refine call (Fo_ _) rfl rfl fun w8=>?_;refine ungd rfl rfl ?_;refine gx tv47 1 ?_;refine so_rt (t:=23) (p':= .bool true) (ple (congrArg PV.bool (show decide ((Ar_ (B4_ ((Ae_ (Cz_) 1).1) (⟨1,[113]⟩:LentR)))=0)=true by decide +kernel))) rfl ?_;refine gx tv47 5 ?_;refine rt1 rfl rfl (ple ?_);exact congrArg PV.bool (by first|rfl|decide +kernel)
theorem l27_Awake:Fn Tryz.prog gb 64 [] (.bool true):=by
  refine fC Tryz.func64 tv47 Tryz.ntmps64 fun w N H hG=>?_;refine gx tv47 7 ?_;refine call l27_awake rfl rfl fun w1=>?_;refine gx tv47 4 ?_;refine rt1 rfl rfl (ple ?_)
  rfl
abbrev R6_:((List DeedR)×Bool)->PV:=fun r=> .tup [.sl DeedR.pc r.1, .bool r.2]
abbrev R7_:(ChanR×Int)->PV:=fun r=> .tup [.agg (ChanR.pc r.1), .int .i64 r.2]
abbrev R9_:(ChanR×Int)->PV:=fun r=> .tup [.agg (ChanR.pc r.1), .int .u64 r.2]
theorem cb231:Ah_ Tryz.prog 231:=Z_ Tryz.func231 (by kernel_rfl) (by kernel_rfl)
theorem sz9:Sz Tryz.prog 9 1:=fun w=>by kernel_rfl
abbrev ty64:TI:=⟨.agg [(0,1),(1,1),(2,1),(3,1),(4,1),(5,1),(6,1),(7,1),(8,1),(9,1)],10,120,[.int .u8 0, .int .u8 0, .str [], .str [], .str [], .sl Pair.pc [], .str [], .int .u64 0, .int .u64 0, .bool false]⟩
abbrev ty67:TI:=⟨.agg [(0,1),(1,1),(2,1),(3,1),(4,1),(5,1),(6,1),(7,1),(8,1),(9,1)],10,120,[.int .u8 0, .int .u8 0, .str [], .str [], .str [], .sl Pair.pc [], .str [], .int .u64 0, .int .u64 0, .bool false]⟩
abbrev ty140:TI:=⟨.agg [(0,1),(1,1),(2,1),(3,1),(4,1),(5,1),(6,1),(7,1),(8,1),(9,1)],10,10,[.bool false, .bool false, .bool false, .bool false, .bool false, .bool false, .bool false, .bool false, .bool false, .bool false]⟩
def tbv60:Tb:=[(4,ty4),(5,ty5),(9,ty9),(27,ty27),(47,ty47),(64,ty64),(67,ty67),(140,ty140)]
theorem tv60:tbB Tryz.prog tbv60=true:=by kernel_rfl
theorem strings_ContainsAny (s cs:Bs) (hs:s.length<4294967281) (hc:cs.length<4294967281) (ha:∀ c∈s,c.toNat<128) (hb:∀ c∈cs,c.toNat<128):Fn Tryz.prog gb 231 [.str s, .str cs] (.bool (Mk_ s cs)):=
  Z5_ (vs:=[str s,str cs]) (v:= .bool (Mk_ s cs)) cb231 rfl rfl
    (fun w H=>Sims.cons (Sim.str w.1) (Sims.cons (Sim.str w.2.1) Sims.nil))
    (fun w H=>Sim.bool)
    (fun w H hG=>SW.strings_ContainsAny H s cs hs hc ha hb)
theorem Bt_ (m:Method) (letters:Bs) (hk:m.kind<=20:=by omega) (hll:letters.length<4294967281:=by decide) (hlp:∀ c∈letters,c.toNat<128:=by decide):Fn Tryz.prog gb 197 [.agg (Method.pc m), .str letters] (.bool (A3_ m letters)):=by
  refine fC Tryz.func197 tv60 Tryz.ntmps197 fun w N H hG=>?_;have m_channel_r:0<=m.channel/\m.channel<=255:=w.1.1;have m_kind_r:0<=m.kind/\m.kind<=255:=w.1.2.1;have m_name_l:m.name.length<=9223372036854775807:=w.1.2.2.1;have m_other_l:m.other.length<=9223372036854775807:=w.1.2.2.2.1;have m_key_l:m.key.length<=9223372036854775807:=w.1.2.2.2.2.1;have m_head_l:m.head.length<=140737488355328:=w.1.2.2.2.2.2.1.1;have m_body_l:m.body.length<=9223372036854775807:=w.1.2.2.2.2.2.2.1;have m_n_r:0<=m.n/\m.n<=18446744073709551615:=w.1.2.2.2.2.2.2.2.1;have m_m_r:0<=m.m/\m.m<=18446744073709551615:=w.1.2.2.2.2.2.2.2.2.1;have letters_l:letters.length<=9223372036854775807:=w.2.1;have e0:=A3_.eq_1 m letters;refine gm tv60 10 [0] fun B2=>?_;refine q1 (qgstr (m:=(m.kind).toNat) tellsT (by decide) (fun _ h=>T7_ h) rfl Tryz.underlying219 sz9 (by omega) (by omega) rfl) rfl fun w3=>?_;refine gx tv60 2 ?_;refine call (strings_ContainsAny _ _ (Nat.lt_of_le_of_lt (Kk_ _) (by decide)) (by assumption) (Py_ _) (by assumption)) rfl rfl fun w4=>?_;refine gx tv60 4 ?_;exact rt1 rfl rfl (Au_ (fun r:Bool=> .bool r) e0 (ple rfl))
theorem Ka_ (m:Method) (hk:m.kind<=20:=by omega):Fn Tryz.prog gb 160 [.agg (Method.pc m)] (.bool (Dl_ m)):=by
  refine fC Tryz.func160 tv60 Tryz.ntmps160 fun w N H hG=>?_;have e0:=Dl_.eq_1 m;generalize Dl_ m=z at e0 ⊢;refine gm tv60 22 [0] fun B2=>?_;refine callg rfl (fun hc=>(Bt_ _ _)) rfl ⟨(fun hc=>hc),trivial⟩ rfl rfl fun _=>?_;refine gy tv60 5 ?_;refine cE e0 (fun h3 e9=>?_) (fun h3 e10=>?_)
  · have h4:=bl h3;have h5:=Br_ h4;have p6:=df h5;have h7:=br h3;have h8:=Br_ h7;refine gx tv60 2 ?_;refine cndT rfl h3 ?_;refine gx tv60 17 ?_;subst e9;exact qr1
  refine gx tv60 7 ?_;refine callg rfl (fun hc=>(Bt_ _ _)) rfl ⟨(fun hc=>hc),trivial⟩ rfl rfl fun _=>?_;refine gy tv60 5 ?_;refine cE e10 (fun h11 e17=>?_) (fun h11 e18=>?_)
  · have h12:=bl h11;have h13:=Br_ h12;have p14:=df h13;have h15:=br h11;have h16:=Br_ h15;refine gx tv60 2 ?_;refine cndT rfl h11 ?_;refine gx tv60 17 ?_;subst e17;exact qr1
  refine gx tv60 6 ?_;refine callg rfl (fun hc=>(Bt_ _ _)) rfl ⟨(fun hc=>hc),trivial⟩ rfl rfl fun _=>?_;refine gy tv60 5 ?_;refine cE e18 (fun h19 e25=>?_) (fun h19 e26=>?_)
  · have h20:=bl h19;have h21:=Br_ h20;have p22:=df h21;have h23:=br h19;have h24:=Br_ h23;refine gx tv60 17 ?_;subst e25;exact qr1
  refine gx tv60 12 ?_;refine callg rfl (fun hc=>(Bt_ _ _)) rfl ⟨(fun hc=>hc),trivial⟩ rfl rfl fun _=>?_;refine gy tv60 5 ?_;refine cE e26 (fun h27 e32=>?_) (fun h27 e33=>?_)
  · have h28:=bl h27;have p29:=dt h28;have h30:=br h27;have h31:=Br_ h30;refine gx tv60 2 ?_;refine cndT rfl h27 ?_;refine gx tv60 17 ?_;subst e32;exact qr1
  refine gx tv60 6 ?_;refine callg rfl (fun hc=>(Bt_ _ _)) rfl ⟨(fun hc=>hc),trivial⟩ rfl rfl fun _=>?_;refine gy tv60 5 ?_;refine cE e33 (fun h34 e40=>?_) (fun h34 e41=>?_)
  · have h35:=bl h34;have h36:=Br_ h35;have p37:=df h36;have h38:=br h34;have h39:=Br_ h38;refine gx tv60 17 ?_;subst e40;exact qr1
  refine gx tv60 10 ?_;refine callg rfl (fun hc=>(Bt_ _ _)) rfl ⟨(fun hc=>hc),trivial⟩ rfl rfl fun _=>?_;refine gy tv60 5 ?_;refine cE e41 (fun h42 e48=>?_) (fun h42 e49=>?_)
  · have h43:=bl h42;have h44:=Br_ h43;have p45:=df h44;have h46:=br h42;have h47:=Br_ h46;refine gx tv60 2 ?_;refine cndT rfl h42 ?_;refine gx tv60 16 ?_;subst e48;exact qr1
  refine gx tv60 7 ?_;refine callg rfl (fun hc=>(Bt_ _ _)) rfl ⟨(fun hc=>hc),trivial⟩ rfl rfl fun _=>?_;refine gy tv60 5 ?_;refine cE e49 (fun h50 e56=>?_) (fun h50 e57=>?_)
  · have h51:=bl h50;have h52:=Br_ h51;have p53:=df h52;have h54:=br h50;have h55:=Br_ h54;refine gx tv60 2 ?_;refine cndT rfl h50 ?_;refine gx tv60 16 ?_;subst e56;exact qr1
  refine gx tv60 5 ?_;refine callg rfl (fun hc=>(Bt_ _ _)) rfl ⟨(fun hc=>hc),trivial⟩ rfl rfl fun _=>?_;refine gy tv60 5 ?_;refine cE e57 (fun h58 e62=>?_) (fun h58 e63=>?_)
  · have h59:=bl h58;have h60:=br h58;have h61:=Br_ h60;refine gx tv60 16 ?_;subst e62;exact qr1
  refine gx tv60 15 ?_;subst e63;exact qr1
theorem Zc_ (a:Method) (b:Method):Fn Tryz.prog gb 123 [.agg (Method.pc a), .agg (Method.pc b)] (.bool (Nc_ a b)):=by
  refine fC Tryz.func123 tv60 Tryz.ntmps123 fun w N H hG=>?_;have e0:=Nc_.eq_1 a b;refine gmy tv60 47 [0,1] fun B2=>?_;refine callg rfl (fun hc=>(Ts_ _ _)) rfl ⟨(fun hc=>hc),(fun hc=>hc),trivial⟩ rfl rfl fun _=>?_;refine gy tv60 33 ?_;exact rt1 rfl rfl (Au_ (fun r:Bool=> .bool r) e0 (ple rfl))
theorem Xg_ (kind:Int):Fn Tryz.prog gb 66 [.int .u8 kind] (.agg (HasR.pc (Im_ kind))):=by
  refine fC Tryz.func66 tv60 Tryz.ntmps66 fun w N H hG=>?_;have e0:=Im_.eq_1 kind;generalize Im_ kind=z at e0 ⊢;refine gmy tv60 20 [0] fun B2=>?_;refine cE e0 (fun h3 e4=>?_) (fun h3 e13=>?_)
  · refine gm tv60 8 [] fun _=>?_;subst e4;exact qr1
  have h6:=orl h3;have h7:=orl h6;have p8:=df h7;have h9:=orr h6;have p10:=df h9;have h11:=orr h3;have p12:=df h11;refine gx tv60 9 ?_;refine cD e13 (fun p15 e16=>?_) (fun p18 e19=>?_)
  · refine gm tv60 8 [] fun _=>?_;subst e16;exact qr1
  refine gy tv60 17 ?_;refine cE e19 (fun h20 e21=>?_) (fun h20 e30=>?_)
  · refine gm tv60 8 [] fun _=>?_;subst e21;exact qr1
  have h23:=orl h20;have h24:=orl h23;have p25:=df h24;have h26:=orr h23;have p27:=df h26;have h28:=orr h20;have p29:=df h28;refine gx tv60 9 ?_;refine cD e30 (fun p32 e33=>?_) (fun p35 e36=>?_)
  · refine gm tv60 8 [] fun _=>?_;subst e33;exact qr1
  refine gy tv60 13 ?_;refine cE e36 (fun h37 e42=>?_) (fun h37 e44=>?_)
  · have h38:=bl h37;have p39:=dt h38;have h40:=br h37;have p41:=dt h40;refine gm tv60 8 [] fun _=>?_;subst e42;exact qr1
  refine gx tv60 9 ?_;refine cD e44 (fun p46 e47=>?_) (fun p49 e50=>?_)
  · refine gm tv60 8 [] fun _=>?_;subst e47;exact qr1
  refine gx tv60 9 ?_;refine cD e50 (fun p52 e53=>?_) (fun p55 e56=>?_)
  · refine gm tv60 8 [] fun _=>?_;subst e53;exact qr1
  refine gx tv60 9 ?_;refine cD e56 (fun p58 e59=>?_) (fun p61 e62=>?_)
  · refine gm tv60 8 [] fun _=>?_;subst e59;exact qr1
  refine gm tv60 9 [] fun _=>?_;subst e62;exact qr1
abbrev R10_:HasR->PV:=fun r=> .agg (HasR.pc r)
theorem cb206:Ah_ Tryz.prog 206:=Z_ Tryz.func206 (by kernel_rfl) (by kernel_rfl)
abbrev ty303:TI:=⟨.agg [(0,1),(1,1),(2,1)],3,32,[.str [], .int .i64 0, .int .i64 0]⟩
def tbv61:Tb:=[(3,ty3),(4,ty4),(5,ty5),(9,ty9),(27,ty27),(47,ty47),(64,ty64),(67,ty67),(140,ty140),(199,Wr_),(303,ty303)]
theorem tv61:tbB Tryz.prog tbv61=true:=by kernel_rfl
theorem Le_ (m:Method) (letter:Int):Fn Tryz.prog gb 161 [.agg (Method.pc m), .int .i32 letter] (.int .i64 (D7_ m letter)):=by
  refine fC Tryz.func161 tv61 Tryz.ntmps161 fun w N H hG=>?_;have e0:=D7_.eq_1 m letter;generalize D7_ m letter=z at e0 ⊢;refine gm tv61 35 [0] fun B2=>?_;refine cD e0 (fun p4 e5=>?_) (fun p7 e8=>?_)
  · refine gx tv61 10 ?_;refine call (Ck_ _) rfl rfl fun w6=>?_;refine gx tv61 19 ?_;subst e5;exact qr1
  refine gx tv61 9 ?_;refine cD e8 (fun p10 e11=>?_) (fun p18 e19=>?_)
  · refine gx tv61 14 ?_;refine cD e11 (fun p13 e14=>?_) (fun p15 e16=>?_)
    · refine gx tv61 18 ?_;subst e14;exact qr1
    refine gx tv61 8 ?_;refine call (Ck_ _) rfl rfl fun w17=>?_;refine gx tv61 15 ?_;subst e16;exact qr1
  refine gx tv61 9 ?_;refine cD e19 (fun p21 e22=>?_) (fun p24 e25=>?_)
  · refine gx tv61 14 ?_;refine call (Ck_ _) rfl rfl fun w23=>?_;refine gx tv61 15 ?_;subst e22;exact qr1
  refine gx tv61 9 ?_;refine cD e25 (fun p27 e28=>?_) (fun p30 e31=>?_)
  · refine gx tv61 16 ?_;refine call (Mi_ _) rfl rfl fun w29=>?_;refine gx tv61 13 ?_;subst e28;exact qr1
  refine gx tv61 9 ?_;refine cD e31 (fun p33 e34=>?_) (fun p36 e37=>?_)
  · refine gx tv61 18 ?_;refine call (Mp_ _) rfl rfl fun w35=>?_;refine gx tv61 11 ?_;subst e34;exact qr1
  refine gx tv61 9 ?_;refine cD e37 (fun p39 e40=>?_) (fun p42 e43=>?_)
  · refine gx tv61 20 ?_;refine call (Gj_ _) rfl rfl fun w41=>?_;refine gx tv61 9 ?_;subst e40;exact qr1
  refine gx tv61 8 ?_;refine cD e43 (fun p45 e46=>?_) (fun p52 e53=>?_)
  · refine gx tv61 25 ?_;refine cD e46 (fun p48 e49=>?_) (fun p50 e51=>?_)
    · refine gx tv61 9 ?_;subst e49;exact qr1
    refine gx tv61 11 ?_;subst e51;exact qr1
  refine gx tv61 25 ?_;subst e53;exact qr1
theorem Gr_ (m:Method):Fn Tryz.prog gb 120 [.agg (Method.pc m)] (.int .i64 (Ci_ m)):=by
  refine fC Tryz.func120 tv61 Tryz.ntmps120 fun w N H hG=>?_;have m_channel_r:0<=m.channel/\m.channel<=255:=w.1.1;have m_kind_r:0<=m.kind/\m.kind<=255:=w.1.2.1;have m_name_l:m.name.length<=9223372036854775807:=w.1.2.2.1;have m_other_l:m.other.length<=9223372036854775807:=w.1.2.2.2.1;have m_key_l:m.key.length<=9223372036854775807:=w.1.2.2.2.2.1;have m_head_l:m.head.length<=140737488355328:=w.1.2.2.2.2.2.1.1;have m_body_l:m.body.length<=9223372036854775807:=w.1.2.2.2.2.2.2.1;have m_n_r:0<=m.n/\m.n<=18446744073709551615:=w.1.2.2.2.2.2.2.2.1;have m_m_r:0<=m.m/\m.m<=18446744073709551615:=w.1.2.2.2.2.2.2.2.2.1;have e0:=Ci_.eq_1 m;generalize Ci_ m=z at e0 ⊢;refine gm tv61 16 [0] fun B2=>?_;refine cD e0 (fun p4 e5=>?_) (fun p6 e7=>?_)
  · refine gx tv61 8 ?_;subst e5;exact qr1
  refine gx tv61 3 ?_;refine call (Ka_ _) rfl rfl fun w8=>?_;refine gx tv61 3 ?_;refine cE e7 (fun h9 e10=>?_) (fun h9 e11=>?_)
  · refine gx tv61 8 ?_;subst e10;exact qr1
  refine gx tv61 8 ?_;refine q1 (qgstr (m:=(m.kind).toNat) tellsT (by decide) (fun _ h=>T7_ h) rfl Tryz.underlying219 sz9 (by omega) (by omega) rfl) rfl fun w12=>?_;refine gx tv61 1 ?_;refine ef (erange tv61 1 rfl rfl rfl rfl fun b13=>?_);refine gx tv61 3 ?_;refine loop (ι:=Nat) [1,17] [0] (fun k=>[]) (fun k=>[(1, .itr b13 (tellsT.getD (m.kind).toNat []) k)]) (fun k=>k<=(tellsT.getD (m.kind).toNat []).length/\z=A8_ m ((tellsT.getD (m.kind).toNat []).drop k)) (fun k=>(tellsT.getD (m.kind).toNat []).length-k) 0 trivial ⟨rfl,trivial⟩ ?_ ?_
  · exact⟨Nat.zero_le _,e11⟩
  rintro k ⟨hp14_1,hp14_2⟩;refine gx tv61 2 ?_;have u8_hn15:=u8r ((tellsT.getD (m.kind).toNat []).getD k 0);refine hnext rfl rfl rfl rfl (by have :(tellsT.getD (m.kind).toNat []).length<=5:=Kk_ m.kind;omega) (fun hn15=>(T8_ _ _ hn15)) rfl (fun hn15=>?_) (fun hn15=>?_)
  · have e16:=C1_ (f:=fun zz=>A8_ m zz) hp14_2 (Fh_ hn15) (A8_.eq_2 _ _ _);refine gx tv61 18 ?_;refine cV e16 R0_ (Le_ _ _) rfl fun r hr17 e19 w18=>?_;refine gx tv61 9 ?_;refine cN e19 (fun p22 e23=>?_) (fun p25 e26=>?_)
    · refine gx tv61 11 ?_;subst e23;exact qr1
    refine gx tv61 2 ?_;refine next (k+1) rfl rfl trivial ⟨rfl,trivial⟩ ?_ ?_
    · (try simp only[]);omega
    exact⟨by (try simp only[]);omega,e26⟩
  have e27:=C1_ (f:=fun zz=>A8_ m zz) hp14_2 (Gb_ hn15) (A8_.eq_1 _);refine gx tv61 16 ?_;subst e27;exact qr1
theorem Ko_ (m:Method) (hl:m.head.length<=1000000:=by first|omega|(simp;omega)|decide +kernel):Fn Tryz.prog gb 18 [.agg (Method.pc m)] (.agg (Method.pc (Ie_ m))):=by
  refine fC Tryz.func18 tv61 Tryz.ntmps18 fun w N H hG=>?_;have e0:=Ie_.eq_1 m;refine gm tv61 15 [0,1,2] fun B2=>?_;refine ef (bsl 3 Pair.pc [] tv61 rfl rfl rfl rfl rfl (fun _=>rfl) rfl (by decide) (by decide) rfl fun u5=>?_);refine gx tv61 2 ?_;refine ef (app tv61 m.head rfl rfl rfl rfl rfl rfl rfl rfl rfl (src_l rfl (fun _=>rfl)) (by first|omega|(simp;omega)) rfl fun u6=>?_);refine gx tv61 1 ?_;refine give 3 rfl ?_;refine ef (sO tv61 ?_);refine gm tv61 9 [] fun _=>?_;exact rt1 rfl rfl (Au_ (fun r:Method=> .agg (Method.pc r)) e0 (ple rfl))
theorem Xa_ (m:Method):Fn Tryz.prog gb 16 [.agg (Method.pc m)] (.bool (Ku_ m)):=by
  refine fC Tryz.func16 tv61 Tryz.ntmps16 fun w N H hG=>?_;have e0:=Ku_.eq_1 m;refine gmy tv61 25 [0] fun B2=>?_;refine callg rfl (fun hc=>(Rh_ _)) rfl ⟨(fun hc=>hc),trivial⟩ rfl rfl fun _=>?_;refine gy tv61 11 ?_;exact rt1 rfl rfl (Au_ (fun r:Bool=> .bool r) e0 (ple rfl))
theorem Ok_ (m:Method):Fn Tryz.prog gb 17 [.agg (Method.pc m)] (.int .i64 (Db_ m)):=by
  refine fC Tryz.func17 tv61 Tryz.ntmps17 fun w N H hG=>?_;have e0:=Db_.eq_1 m;generalize Db_ m=z at e0 ⊢;refine gm tv61 14 [0] fun B2=>?_;refine cD e0 (fun p4 e5=>?_) (fun p6 e7=>?_)
  · refine gx tv61 7 ?_;subst e5;exact qr1
  refine gx tv61 6 ?_;refine cV e7 R10_ (Xg_ _) rfl fun r hr8 e10 w9=>?_;refine gmy tv61 87 [1] fun B12=>?_;refine cE e10 (fun h13 e14=>?_) (fun h13 e29=>?_)
  · refine gx tv61 7 ?_;subst e14;exact qr1
  have h15:=orl h13;have h16:=orl h15;have h17:=orl h16;have h18:=orl h17;have h19:=orl h18;have h20:=orl h19;have h21:=orl h20;have h22:=orr h20;have h23:=orr h19;have h24:=orr h18;have h25:=orr h17;have h26:=orr h16;have h27:=orr h15;have h28:=orr h13;refine gx tv61 8 ?_;obtain⟨o,e_o,q_o⟩:=Cc_ e29;refine Dv_ (ι:=Int) [1,2,3] [0,1] (fun e_1=>[(4, .int .i64 e_1)]) (fun e_1=>[]) (fun e_1=>o=e_1) ?_ ?_
  · refine gx tv61 6 ?_;refine cE e_o (fun h30 e31=>?_) (fun h30 e33=>?_)
    · refine gx tv61 3 ?_;refine call (H7_ _) rfl rfl fun w32=>?_;refine gx tv61 2 ?_;refine nX (Cr_ m.name) ?_ ⟨rfl,trivial⟩ trivial;exact e31
    refine gx tv61 1 ?_;refine nX 0 ?_ ⟨rfl,trivial⟩ trivial;exact e33
  rintro e_1 hp34;have e35:=D5_ q_o hp34;refine gx tv61 2 ?_;obtain⟨o1,e_o1,q_o1⟩:=Cc_ e35;refine Dv_ (ι:=Int) [1,2,3] [0,1] (fun e_2=>[(4, .int .i64 e_2)]) (fun e_2=>[]) (fun e_2=>o1=e_2) ?_ ?_
  · refine gy tv61 20 ?_;refine cE e_o1 (fun h36 e43=>?_) (fun h36 e45=>?_)
    · have h37:=bl h36;have h38:=bl h37;have p39:=dt h38;have h40:=br h37;have h41:=br h36;have h42:=Br_ h41;refine gx tv61 3 ?_;refine call (H7_ _) rfl rfl fun w44=>?_;refine gx tv61 2 ?_;refine nX (Cr_ m.other) ?_ ⟨rfl,trivial⟩ trivial;exact e43
    refine gx tv61 1 ?_;refine nX e_1 ?_ ⟨rfl,trivial⟩ trivial;exact e45
  rintro e_2 hp46;have e47:=D5_ q_o1 hp46;refine gx tv61 2 ?_;obtain⟨o2,e_o2,q_o2⟩:=Cc_ e47;refine Dv_ (ι:=Int) [1,2,3] [0,1] (fun e_3=>[(4, .int .i64 e_3)]) (fun e_3=>[]) (fun e_3=>o2=e_3) ?_ ?_
  · refine gy tv61 10 ?_;refine cE e_o2 (fun h48 e52=>?_) (fun h48 e54=>?_)
    · have h49:=bl h48;have p50:=dt h49;have h51:=br h48;refine gx tv61 5 ?_;refine call (r4_Key _ _) rfl rfl fun w53=>?_;refine gx tv61 2 ?_;refine nX (keyE (Cg_ r.pattern) m.key) ?_ ⟨rfl,trivial⟩ trivial;exact e52
    refine gx tv61 1 ?_;refine nX e_2 ?_ ⟨rfl,trivial⟩ trivial;exact e54
  rintro e_3 hp55;have e56:=D5_ q_o2 hp55;refine gx tv61 2 ?_;obtain⟨o3,e_o3,q_o3⟩:=Cc_ e56;refine Dv_ (ι:=Int) [1,2] [0,1] (fun e_4=>[(4, .int .i64 e_4)]) (fun e_4=>[]) (fun e_4=>o3=e_4) ?_ ?_
  · refine gy tv61 10 ?_;refine cE e_o3 (fun h57 e61=>?_) (fun h57 e63=>?_)
    · have h58:=bl h57;have p59:=dt h58;have h60:=br h57;refine gx tv61 3 ?_;refine call (Ux_ _) rfl rfl fun w62=>?_;refine gx tv61 2 ?_;refine nX (Df_ m.head) ?_ ⟨rfl,trivial⟩ trivial;exact e61
    refine gx tv61 1 ?_;refine nX e_3 ?_ ⟨rfl,trivial⟩ trivial;exact e63
  rintro e_4 hp64;have e65:=D5_ q_o3 hp64;refine gy tv61 14 ?_;refine cE e65 (fun h66 e71=>?_) (fun h66 e72=>?_)
  · have h67:=bl h66;have p68:=dt h67;have h69:=br h66;have p70:=dt h69;refine gx tv61 11 ?_;subst e71;exact qr1
  refine gx tv61 9 ?_;subst e72;exact qr1
theorem By_ (i:RIn) (code:Int):Fm Tryz.prog gb 206 [.int .i64 code] 303 (RIn.pc i) (.tup []) (RIn.pc (U_ i code)):=by
  refine L6_ tv61 Tryz.func206 rfl Tryz.ntmps206 rfl cb206 rfl rfl rfl rfl fun w wp b N H hG=>?_;have e0:=U_.eq_1 i code;refine gx tv61 9 ?_;refine cD e0 (fun p2 e3=>?_) (fun p5 e6=>?_)
  · refine gm tv61 7 [] fun _=>?_;exact rm0n rfl rfl (Au_ (fun _=> .tup []) e3 (ple rfl)) rfl rfl rfl (G1_ (fun r:RIn=>RIn.pc r) e3 (ples rfl))
  refine gx tv61 1 ?_;exact rm0n rfl rfl (Au_ (fun _=> .tup []) e6 (ple rfl)) rfl rfl rfl (G1_ (fun r:RIn=>RIn.pc r) e6 (ples rfl))
theorem cb236:Ah_ Tryz.prog 236:=Z_ Tryz.func236 (by kernel_rfl) (by kernel_rfl)
def tbv62:Tb:=[(3,ty3),(4,ty4),(5,ty5),(9,ty9),(27,ty27),(47,ty47),(64,ty64),(158,Tl_),(285,We_),(303,ty303)]
theorem tv62:tbB Tryz.prog tbv62=true:=by kernel_rfl
theorem J8_ (m:Method):Fn Tryz.prog gb 147 [.agg (Method.pc m)] (.tup [.agg (Frame.pc ((Ch_ m).1)), .int .i64 ((Ch_ m).2)]):=by
  refine fC Tryz.func147 tv62 Tryz.ntmps147 fun w N H hG=>?_;have m_channel_r:0<=m.channel/\m.channel<=255:=w.1.1;have m_kind_r:0<=m.kind/\m.kind<=255:=w.1.2.1;have m_name_l:m.name.length<=9223372036854775807:=w.1.2.2.1;have m_other_l:m.other.length<=9223372036854775807:=w.1.2.2.2.1;have m_key_l:m.key.length<=9223372036854775807:=w.1.2.2.2.2.1;have m_head_l:m.head.length<=140737488355328:=w.1.2.2.2.2.2.1.1;have m_body_l:m.body.length<=9223372036854775807:=w.1.2.2.2.2.2.2.1;have m_n_r:0<=m.n/\m.n<=18446744073709551615:=w.1.2.2.2.2.2.2.2.1;have m_m_r:0<=m.m/\m.m<=18446744073709551615:=w.1.2.2.2.2.2.2.2.2.1;have e0:=Ch_.eq_1 m;generalize Ch_ m=z at e0 ⊢;refine gm tv62 11 [0,1] fun B2=>?_;refine cV e0 R0_ (Gr_ _) rfl fun r hr4 e6 w5=>?_;have hA6:=Sg_ m
  (try rw[<- hr4] at hA6)
  refine gx tv62 9 ?_;refine cN e6 (fun p10 e11=>?_) (fun p14 e15=>?_)
  · refine gm tv62 10 [] fun _=>?_;subst e11;exact qr2
  refine gm tv62 12 [2] fun B17=>?_;refine q1 (qgstr (m:=(m.kind).toNat) tellsT (by decide) (fun _ h=>T7_ h) rfl Tryz.underlying219 sz9 (by omega) (by omega) rfl) rfl fun w18=>?_;refine gx tv62 1 ?_;refine ef (erange tv62 3 rfl rfl rfl rfl fun b19=>?_);refine gx tv62 3 ?_;refine loop (ι:=Nat×Out) [1,2,3,5,21] [0,1] (fun ⟨k,x⟩=>[]) (fun ⟨k,x⟩=>[(3, .itr b19 (tellsT.getD (m.kind).toNat []) k),(2, .box (B17 0) 285 (Out.pc x))]) (fun ⟨k,x⟩=>k<=(tellsT.getD (m.kind).toNat []).length/\z=O_ m ((tellsT.getD (m.kind).toNat []).drop k) x/\x.s.length<=1000*k) (fun ⟨k,x⟩=>(tellsT.getD (m.kind).toNat []).length-k) ⟨0,(⟨[],0⟩:Out)⟩ trivial ⟨rfl,rfl,trivial⟩ ?_ ?_
  · exact⟨Nat.zero_le _,e15,(by simp)⟩
  rintro⟨k,x⟩ ⟨hp20_1,hp20_2,hp20_3⟩;have hE:E6_ m=0:=by rw[<- O4_];omega
  have htl:(tellsT.getD (m.kind).toNat []).length<=5:=Kk_ m.kind;refine gx tv62 2 ?_;have u8_hn21:=u8r ((tellsT.getD (m.kind).toNat []).getD k 0);refine hnext rfl rfl rfl rfl (by have :(tellsT.getD (m.kind).toNat []).length<=5:=Kk_ m.kind;omega) (fun hn21=>(T8_ _ _ hn21)) rfl (fun hn21=>?_) (fun hn21=>?_)
  · have e22:=C1_ (f:=fun zz=>O_ m zz x) hp20_2 (Fh_ hn21) (O_.eq_2 _ _ _ _);have hone:oneE m ((((tellsT.getD (m.kind).toNat [])).getD k 0).toNat:Int)=0:=S9_ hE hn21;obtain⟨hol1,hol2,hol3,hol4⟩:=oneE_len hone;refine gx tv62 26 ?_;refine cD e22 (fun p24 e25=>?_) (fun p28 e29=>?_)
    · refine gx tv62 4 ?_;refine call (Bl_ _ _) rfl rfl fun w26=>?_;have :=T_ x m.name;refine gm tv62 4 [] fun _=>?_;refine next ⟨(k+1),(D_ x m.name)⟩ rfl rfl trivial ⟨rfl,rfl,trivial⟩ ?_ ?_
      · (try simp only[]);omega
      exact⟨by (try simp only[]);omega,e25,(by (try simp only[]);omega)⟩
    refine gx tv62 7 ?_;refine cE e29 (fun h30 e32=>?_) (fun h30 e36=>?_)
    · have p31:=dt h30;refine gx tv62 2 ?_;refine cndT rfl h30 ?_;refine gx tv62 4 ?_;refine call (Bl_ _ _) rfl rfl fun w33=>?_;have :=T_ x m.other;refine gm tv62 4 [] fun _=>?_;refine next ⟨(k+1),(D_ x m.other)⟩ rfl rfl trivial ⟨rfl,rfl,trivial⟩ ?_ ?_
      · (try simp only[]);omega
      exact⟨by (try simp only[]);omega,e32,(by (try simp only[]);omega)⟩
    have p35:=df h30;refine gx tv62 5 ?_;refine cD e36 (fun p38 e39=>?_) (fun p42 e43=>?_)
    · refine gx tv62 4 ?_;refine call (Bl_ _ _) rfl rfl fun w40=>?_;have :=T_ x m.other;refine gm tv62 4 [] fun _=>?_;refine next ⟨(k+1),(D_ x m.other)⟩ rfl rfl trivial ⟨rfl,rfl,trivial⟩ ?_ ?_
      · (try simp only[]);omega
      exact⟨by (try simp only[]);omega,e39,(by (try simp only[]);omega)⟩
    refine gx tv62 7 ?_;refine cE e43 (fun h44 e46=>?_) (fun h44 e50=>?_)
    · have p45:=dt h44;refine gx tv62 2 ?_;refine cndT rfl h44 ?_;refine gx tv62 4 ?_;refine call (Bl_ _ _) rfl rfl fun w47=>?_;have :=T_ x m.key;refine gm tv62 4 [] fun _=>?_;refine next ⟨(k+1),(D_ x m.key)⟩ rfl rfl trivial ⟨rfl,rfl,trivial⟩ ?_ ?_
      · (try simp only[]);omega
      exact⟨by (try simp only[]);omega,e46,(by (try simp only[]);omega)⟩
    have p49:=df h44;refine gx tv62 5 ?_;refine cD e50 (fun p52 e53=>?_) (fun p56 e57=>?_)
    · refine gx tv62 4 ?_;refine call (Bl_ _ _) rfl rfl fun w54=>?_;have :=T_ x m.key;refine gm tv62 4 [] fun _=>?_;refine next ⟨(k+1),(D_ x m.key)⟩ rfl rfl trivial ⟨rfl,rfl,trivial⟩ ?_ ?_
      · (try simp only[]);omega
      exact⟨by (try simp only[]);omega,e53,(by (try simp only[]);omega)⟩
    refine gx tv62 6 ?_;refine cD e57 (fun p59 e60=>?_) (fun p64 e65=>?_)
    · refine gx tv62 4 ?_;refine call (G2_ _) rfl rfl fun w61=>?_;have :=D0_ m.head;refine gx tv62 10 ?_;refine call (Jm_ _ _) rfl rfl fun w62=>?_;have :=E0_ x (Av_ m.head);refine gm tv62 4 [] fun _=>?_;refine next ⟨(k+1),(At_ x (Av_ m.head))⟩ rfl rfl trivial ⟨rfl,rfl,trivial⟩ ?_ ?_
      · (try simp only[]);omega
      exact⟨by (try simp only[]);omega,e60,(by (try simp only[]);omega)⟩
    refine gx tv62 6 ?_;refine cD e65 (fun p67 e68=>?_) (fun p71 e72=>?_)
    · refine gx tv62 4 ?_;refine call (Bl_ _ _) rfl rfl fun w69=>?_;have :=T_ x m.body;refine gm tv62 4 [] fun _=>?_;refine next ⟨(k+1),(D_ x m.body)⟩ rfl rfl trivial ⟨rfl,rfl,trivial⟩ ?_ ?_
      · (try simp only[]);omega
      exact⟨by (try simp only[]);omega,e68,(by (try simp only[]);omega)⟩
    refine gx tv62 6 ?_;refine cD e72 (fun p74 e75=>?_) (fun p78 e79=>?_)
    · refine gx tv62 4 ?_;refine call (out_Num _ _ _ (by ((try have :=hrl (by assumption));first|omega|(simp[C_,At_,Ad_,numK]<;>omega)))) rfl rfl fun w76=>?_;have :=P_ x m.n 8;refine gm tv62 4 [] fun _=>?_;refine next ⟨(k+1),(C_ x m.n 8)⟩ rfl rfl trivial ⟨rfl,rfl,trivial⟩ ?_ ?_
      · (try simp only[]);omega
      exact⟨by (try simp only[]);omega,e75,(by (try simp only[]);omega)⟩
    refine gx tv62 6 ?_;refine cD e79 (fun p81 e82=>?_) (fun p85 e86=>?_)
    · refine gx tv62 4 ?_;refine call (out_Num _ _ _ (by ((try have :=hrl (by assumption));first|omega|(simp[C_,At_,Ad_,numK]<;>omega)))) rfl rfl fun w83=>?_;have :=P_ x m.m 8;refine gm tv62 4 [] fun _=>?_;refine next ⟨(k+1),(C_ x m.m 8)⟩ rfl rfl trivial ⟨rfl,rfl,trivial⟩ ?_ ?_
      · (try simp only[]);omega
      exact⟨by (try simp only[]);omega,e82,(by (try simp only[]);omega)⟩
    refine gx tv62 6 ?_;refine cD e86 (fun p88 e89=>?_) (fun p97 e98=>?_)
    · refine gx tv62 12 ?_;refine cE e89 (fun h90 e91=>?_) (fun h90 e94=>?_)
      · refine gx tv62 7 ?_;refine call (out_Num _ _ _ (by ((try have :=hrl (by assumption));first|omega|(simp[C_,At_,Ad_,numK]<;>omega)))) rfl rfl fun w92=>?_;have :=P_ x 1 1;refine gm tv62 4 [] fun _=>?_;refine next ⟨(k+1),(C_ x 1 1)⟩ rfl rfl trivial ⟨rfl,rfl,trivial⟩ ?_ ?_
        · (try simp only[]);omega
        exact⟨by (try simp only[]);omega,e91,(by (try simp only[]);omega)⟩
      refine gx tv62 5 ?_;refine call (out_Num _ _ _ (by ((try have :=hrl (by assumption));first|omega|(simp[C_,At_,Ad_,numK]<;>omega)))) rfl rfl fun w95=>?_;have :=P_ x 0 1;refine gm tv62 4 [] fun _=>?_;refine next ⟨(k+1),(C_ x 0 1)⟩ rfl rfl trivial ⟨rfl,rfl,trivial⟩ ?_ ?_
      · (try simp only[]);omega
      exact⟨by (try simp only[]);omega,e94,(by (try simp only[]);omega)⟩
    refine gx tv62 3 ?_;refine next ⟨(k+1),x⟩ rfl rfl trivial ⟨rfl,rfl,trivial⟩ ?_ ?_
    · (try simp only[]);omega
    exact⟨by (try simp only[]);omega,e98,(by (try simp only[]);omega)⟩
  have e99:=C1_ (f:=fun zz=>O_ m zz x) hp20_2 (Gb_ hn21) (O_.eq_1 _ _);refine gx tv62 11 ?_;refine aN [1,4,5,6,7,8,9] 9 mixd ?_;refine gX tv62 [0,1,2,3,4] 4 ?_;refine vC 5 rfl (Ay_ _) rfl fun w100=>?_;refine gX tv62 [6] 2 ?_;refine vT 7 rfl (sA tv62 ?_);refine gX tv62 [8] 0 ?_;refine vD ?_;refine gx tv62 2 ?_;subst e99;exact qr2
theorem Mm_ (i:RIn) (n:Int) (hi:RW i:=by first|assumption|exact Bm_ _|exact⟨by (try simp only[]);omega,by (try simp only[]);omega⟩):Fm Tryz.prog gb 236 [.int .i64 n] 303 (RIn.pc i) (.str ((A9_ i n).1)) (RIn.pc ((A9_ i n).2)):=by
  refine L6_ tv62 Tryz.func236 rfl Tryz.ntmps236 rfl cb236 rfl rfl rfl rfl fun w wp b N H hG=>?_;have n_r:-9223372036854775808<=n/\n<=9223372036854775807:=w.1;have i_s_l:i.s.length<=9223372036854775807:=wp.1;have i_pos_r:-9223372036854775808<=i.pos/\i.pos<=9223372036854775807:=wp.2.1;have i_code_r:-9223372036854775808<=i.code/\i.code<=9223372036854775807:=wp.2.2.1;obtain⟨hi1,hi2⟩:=id hi;have e0:=A9_.eq_1 i n;refine gy tv62 19 ?_;refine cE e0 (fun h1 e2=>?_) (fun h1 e8=>?_)
  · refine gx tv62 7 ?_;exact rm1 rfl rfl (Au_ (fun r:Bs×RIn=> .str r.1) e2 (ple rfl)) rfl rfl rfl (G1_ (fun r:Bs×RIn=>RIn.pc r.2) e2 (ples rfl))
  have h3:=orl h1;have h4:=Bf_ h3;have p5:=dt h4;have h6:=orr h1;have p7:=df h6;refine gx tv62 4 ?_;refine aN [1,2,3,4,5,6] 12 mixd ?_;refine gXy tv62 [0,1,2,3,4,5,6,7,8,9,10,11] 0 ?_;refine vD ?_;refine gx tv62 1 ?_;refine cD e8 (fun p10 e11=>?_) (fun p16 e17=>?_)
  · refine gx tv62 3 ?_;refine ef (ecallm (By_ _ _) rfl rfl rfl rfl rfl ?_);generalize hr13:U_ i 3=r;intro w12 w12p;have e14:=e11.trans (Aq_ hr13.symm);have hA14:=Fd_ i 3 (by first|assumption|exact Bm_ _)
    (try rw[<- hr13.symm] at hA14)
    refine gx tv62 9 ?_;exact rm1 rfl rfl (Au_ (fun r:Bs×RIn=> .str r.1) e14 (ple rfl)) rfl rfl rfl (G1_ (fun r:Bs×RIn=>RIn.pc r.2) e14 (ples rfl))
  refine gmy tv62 17 [] fun _=>?_;refine aN [1,2,3,4,5,6] 16 mixd ?_;refine gXy tv62 [0,1,2,3,4,5,6,7,8,9,10,11,12,13] 2 ?_;refine vq 14 (ssl tv62 (((i.pos+n)-n)).toNat ((i.pos+n)).toNat rfl rfl rfl rfl rfl (by omega) (by omega) (by omega) (by omega)) rfl (by kernel_rfl) rfl fun w19=>?_;refine gX tv62 [15] 0 ?_;refine vD ?_;refine gx tv62 2 ?_;exact rm1 rfl rfl (Au_ (fun r:Bs×RIn=> .str r.1) e17 (ple rfl)) rfl rfl rfl (G1_ (fun r:Bs×RIn=>RIn.pc r.2) e17 (ples rfl))
theorem cb118:Ah_ Tryz.prog 118:=Z_ Tryz.func118 (by kernel_rfl) (by kernel_rfl)
theorem cb204:Ah_ Tryz.prog 204:=Z_ Tryz.func204 (by kernel_rfl) (by kernel_rfl)
theorem cb207:Ah_ Tryz.prog 207:=Z_ Tryz.func207 (by kernel_rfl) (by kernel_rfl)
def tbv63:Tb:=[(3,ty3),(4,ty4),(5,ty5),(9,ty9),(27,ty27),(47,ty47),(64,ty64),(158,Tl_),(303,ty303)]
theorem tv63:tbB Tryz.prog tbv63=true:=by kernel_rfl
theorem Cw_ (i:RIn) (bytes:Int) (hi:RW i:=by first|assumption|exact Bm_ _|exact⟨by (try simp only[]);omega,by (try simp only[]);omega⟩):Fm Tryz.prog gb 204 [.int .i64 bytes] 303 (RIn.pc i) (.int .u64 ((Y_ i bytes).1)) (RIn.pc ((Y_ i bytes).2)):=by
  refine L6_ tv63 Tryz.func204 rfl Tryz.ntmps204 rfl cb204 rfl rfl rfl rfl fun w wp b N H hG=>?_;have e0:=Y_.eq_1 i bytes;refine gx tv63 6 ?_;obtain⟨o,e_o,q_o⟩:=Cc_ e0;refine Dv_ (ι:=Int) [0,4] [0] (fun bytes1=>[(1, .int .i64 bytes1)]) (fun bytes1=>[]) (fun bytes1=>o=bytes1/\bytes1<=8) ?_ ?_
  · refine gx tv63 6 ?_;refine cD e_o (fun p2 e3=>?_) (fun p4 e5=>?_)
    · refine gx tv63 3 ?_;refine nX 8 ?_ ⟨rfl,trivial⟩ trivial;exact⟨e3,(by (try simp only[]);omega)⟩
    refine gx tv63 1 ?_;refine nX bytes ?_ ⟨rfl,trivial⟩ trivial;exact⟨e5,(by (try simp only[]);omega)⟩
  rintro bytes1 ⟨hp6,hp6_3⟩;have e7:=D5_ q_o hp6;refine gx tv63 5 ?_;refine ef (ecallm (Mm_ _ _) rfl rfl rfl rfl rfl ?_);generalize hr9:A9_ i bytes1=r;intro w8 w8p;have e10:=e7.trans (Aq_ hr9.symm);have hA10:=rw_Raw i bytes1 (by first|assumption|exact Bm_ _)
  (try rw[<- hr9.symm] at hA10)
  have hA11:=raw_le i bytes1
  (try rw[<- hr9.symm] at hA11)
  refine gx tv63 15 ?_;refine loop (ι:=Nat×Int×Nat) [4,5] [0] (fun ⟨f,n,k⟩=>[(6, .int .u64 n),(7, .int .i64 (k:Int))]) (fun ⟨f,n,k⟩=>[]) (fun ⟨f,n,k⟩=>r.1.length-k<f/\Y_ i bytes=Fx_ r f n k) (fun ⟨f,n,k⟩=>f) ⟨(r.1.length-0+1),0,0⟩ ⟨rfl,rfl,trivial⟩ trivial ?_ ?_
  · exact⟨Nat.lt_succ_self _,e10⟩
  rintro⟨f,n,k⟩ ⟨hp13_1,hp13_2⟩;refine sw_wf (t:=6) rfl fun w_n=>?_;have w_n':=w_n
  simp only[PV.wf] at w_n'
  obtain⟨f1,rfl⟩:∃ q,f=q+1:=⟨f-1,by omega⟩;have e_f1:=hp13_2.trans (Fx_.eq_2 _ _ _ _);refine gx tv63 9 ?_;refine cD e_f1 (fun p15 e16=>?_) (fun p18 e19=>?_)
  · have :=Sf_ (n*256);have :=u8r (r.1.getD k 0);refine gx tv63 9 ?_;refine q1 (sidx tv63 k rfl rfl rfl rfl rfl (by omega)) rfl fun w17=>?_;have :=Sf_ ((IntKind.wrap .u64 (n*256))+((r.1.getD k 0).toNat:Int));refine gy tv63 11 ?_;refine next ⟨f1,(IntKind.wrap .u64 ((IntKind.wrap .u64 (n*256))+((r.1.getD k 0).toNat:Int))),(k+1)⟩ rfl rfl ⟨rfl,rfl,trivial⟩ trivial ?_ ?_
    · (try simp only[]);omega
    exact⟨by (try simp only[]);omega,e16⟩
  refine gx tv63 12 ?_;exact rm1 rfl rfl (Au_ (fun r:Int×RIn=> .int .u64 r.1) e19 (ple rfl)) rfl rfl rfl (G1_ (fun r:Int×RIn=>RIn.pc r.2) e19 (ples rfl))
theorem Uu_ (i:RIn) (hi:RW i:=by first|assumption|exact Bm_ _|exact⟨by (try simp only[]);omega,by (try simp only[]);omega⟩):Fm Tryz.prog gb 207 [] 303 (RIn.pc i) (.int .i64 ((Cs_ i).1)) (RIn.pc ((Cs_ i).2)):=by
  refine L6_ tv63 Tryz.func207 rfl Tryz.ntmps207 rfl cb207 rfl rfl rfl rfl fun w wp b N H hG=>?_;have e0:=Cs_.eq_1 i;refine gx tv63 7 ?_;refine aN [1,2,3,4,5,6] 17 mixd ?_;refine gXy tv63 [0,1,2,3,4,5,6,7,8,9,10,11,12,13,14,15,16] 0 ?_;refine vD ?_;refine gx tv63 1 ?_;refine cE e0 (fun h1 e6=>?_) (fun h1 e7=>?_)
  · have h2:=bl h1;have p3:=dt h2;have h4:=br h1;have p5:=dt h4;refine gx tv63 7 ?_;exact rm1 rfl rfl (Au_ (fun r:Int×RIn=> .int .i64 r.1) e6 (ple rfl)) rfl rfl rfl (G1_ (fun r:Int×RIn=>RIn.pc r.2) e6 (ples rfl))
  refine gx tv63 12 ?_;exact rm1 rfl rfl (Au_ (fun r:Int×RIn=> .int .i64 r.1) e7 (ple rfl)) rfl rfl rfl (G1_ (fun r:Int×RIn=>RIn.pc r.2) e7 (ples rfl))
theorem Vf_ (f:Frame):Fn Tryz.prog gb 75 [.agg (Frame.pc f)] (.tup [.agg (Method.pc ((Cb_ f).1)), .int .i64 ((Cb_ f).2)]):=by
  refine fC Tryz.func75 tv63 Tryz.ntmps75 fun w N H hG=>?_;have f_channel_r:0<=f.channel/\f.channel<=255:=w.1.1;have f_kind_r:0<=f.kind/\f.kind<=255:=w.1.2.1;have f_body_l:f.body.length<=9223372036854775807:=w.1.2.2.1;have e0:=Cb_.eq_1 f;generalize Cb_ f=z at e0 ⊢;refine gm tv63 15 [0,1] fun B2=>?_;refine cD e0 (fun p5 e6=>?_) (fun p8 e9=>?_)
  · refine gm tv63 9 [] fun _=>?_;subst e6;exact qr2
  refine gm tv63 17 [2] fun B11=>?_;refine ef (ecallb 3 (Q9_ _) rfl rfl fun w12 b13=>?_);refine gx tv63 8 ?_;refine q1 (qgstr (m:=(f.kind).toNat) tellsT (by decide) (fun _ h=>T7_ h) rfl Tryz.underlying219 sz9 (by omega) (by omega) rfl) rfl fun w14=>?_;refine gx tv63 1 ?_;refine ef (erange tv63 4 rfl rfl rfl rfl fun b15=>?_);refine gx tv63 3 ?_;refine loop (ι:=Nat×Method×In) [2,3,4,5,26] [0,1] (fun ⟨k,x,x1⟩=>[]) (fun ⟨k,x,x1⟩=>[(4, .itr b15 (tellsT.getD (f.kind).toNat []) k),(2, .box (B11 0) 64 (Method.pc x)),(3, .box b13 261 (In.pc x1))]) (fun ⟨k,x,x1⟩=>k<=(tellsT.getD (f.kind).toNat []).length/\z=E_ ((tellsT.getD (f.kind).toNat []).drop k) x x1) (fun ⟨k,x,x1⟩=>(tellsT.getD (f.kind).toNat []).length-k) ⟨0,(⟨f.channel,f.kind,[],[],[],[],[],0,0,false⟩:Method),(⟨f.body,0⟩)⟩ trivial ⟨rfl,rfl,rfl,trivial⟩ ?_ ?_
  · exact⟨Nat.zero_le _,e9⟩
  rintro⟨k,x,x1⟩ ⟨hp16_1,hp16_2⟩;refine gx tv63 2 ?_;have u8_hn17:=u8r ((tellsT.getD (f.kind).toNat []).getD k 0);refine hnext rfl rfl rfl rfl (by have :(tellsT.getD (f.kind).toNat []).length<=5:=Kk_ f.kind;omega) (fun hn17=>(T8_ _ _ hn17)) rfl (fun hn17=>?_) (fun hn17=>?_)
  · have e18:=C1_ (f:=fun zz=>E_ zz x x1) hp16_2 (Fh_ hn17) (E_.eq_2 _ _ _ _);refine gx tv63 17 ?_;refine hinl [] tv63 Tryz.func118 rfl Tryz.ntmps118 cb118 rfl rfl rfl rfl fun Hc19 hHc19=>?_;refine gx tv63 12 ?_;refine cD e18 (fun p21 e22=>?_) (fun p28 e29=>?_)
    · refine gx tv63 3 ?_;refine ef (ecallm (J1_ _ _) rfl rfl rfl rfl rfl ?_);generalize hr24:V_ x1 16=r;intro w23 w23p;have e25:=e22.trans (Aq_ hr24.symm);have :=D9_ x1 16
      (try simp only[hr24] at *)
      refine gm tv63 5 [] fun _=>?_;refine inln rfl rfl rfl trivial ?_;refine gx tv63 2 ?_;refine next ⟨(k+1),(⟨x.channel,x.kind,r.1,x.other,x.key,x.head,x.body,x.n,x.m,x.yes⟩:Method),r.2⟩ rfl rfl trivial ⟨rfl,rfl,rfl,trivial⟩ ?_ ?_
      · (try simp only[]);omega
      exact⟨by (try simp only[]);omega,e25⟩
    refine gx tv63 7 ?_;refine cE e29 (fun h30 e32=>?_) (fun h30 e39=>?_)
    · have p31:=dt h30;refine gx tv63 2 ?_;refine cndT rfl h30 ?_;refine gx tv63 3 ?_;refine ef (ecallm (J1_ _ _) rfl rfl rfl rfl rfl ?_);generalize hr34:V_ x1 16=r1;intro w33 w33p;have e35:=e32.trans (Aq_ hr34.symm);have :=D9_ x1 16
      (try simp only[hr34] at *)
      refine gm tv63 5 [] fun _=>?_;refine inln rfl rfl rfl trivial ?_;refine gx tv63 2 ?_;refine next ⟨(k+1),(⟨x.channel,x.kind,x.name,r1.1,x.key,x.head,x.body,x.n,x.m,x.yes⟩:Method),r1.2⟩ rfl rfl trivial ⟨rfl,rfl,rfl,trivial⟩ ?_ ?_
      · (try simp only[]);omega
      exact⟨by (try simp only[]);omega,e35⟩
    have p38:=df h30;refine gx tv63 5 ?_;refine cD e39 (fun p41 e42=>?_) (fun p48 e49=>?_)
    · refine gx tv63 3 ?_;refine ef (ecallm (J1_ _ _) rfl rfl rfl rfl rfl ?_);generalize hr44:V_ x1 16=r2;intro w43 w43p;have e45:=e42.trans (Aq_ hr44.symm);have :=D9_ x1 16
      (try simp only[hr44] at *)
      refine gm tv63 5 [] fun _=>?_;refine inln rfl rfl rfl trivial ?_;refine gx tv63 2 ?_;refine next ⟨(k+1),(⟨x.channel,x.kind,x.name,r2.1,x.key,x.head,x.body,x.n,x.m,x.yes⟩:Method),r2.2⟩ rfl rfl trivial ⟨rfl,rfl,rfl,trivial⟩ ?_ ?_
      · (try simp only[]);omega
      exact⟨by (try simp only[]);omega,e45⟩
    refine gx tv63 7 ?_;refine cE e49 (fun h50 e52=>?_) (fun h50 e59=>?_)
    · have p51:=dt h50;refine gx tv63 2 ?_;refine cndT rfl h50 ?_;refine gx tv63 3 ?_;refine ef (ecallm (J1_ _ _) rfl rfl rfl rfl rfl ?_);generalize hr54:V_ x1 64=r3;intro w53 w53p;have e55:=e52.trans (Aq_ hr54.symm);have :=D9_ x1 64
      (try simp only[hr54] at *)
      refine gm tv63 5 [] fun _=>?_;refine inln rfl rfl rfl trivial ?_;refine gx tv63 2 ?_;refine next ⟨(k+1),(⟨x.channel,x.kind,x.name,x.other,r3.1,x.head,x.body,x.n,x.m,x.yes⟩:Method),r3.2⟩ rfl rfl trivial ⟨rfl,rfl,rfl,trivial⟩ ?_ ?_
      · (try simp only[]);omega
      exact⟨by (try simp only[]);omega,e55⟩
    have p58:=df h50;refine gx tv63 5 ?_;refine cD e59 (fun p61 e62=>?_) (fun p68 e69=>?_)
    · refine gx tv63 3 ?_;refine ef (ecallm (J1_ _ _) rfl rfl rfl rfl rfl ?_);generalize hr64:V_ x1 64=r4;intro w63 w63p;have e65:=e62.trans (Aq_ hr64.symm);have :=D9_ x1 64
      (try simp only[hr64] at *)
      refine gm tv63 5 [] fun _=>?_;refine inln rfl rfl rfl trivial ?_;refine gx tv63 2 ?_;refine next ⟨(k+1),(⟨x.channel,x.kind,x.name,x.other,r4.1,x.head,x.body,x.n,x.m,x.yes⟩:Method),r4.2⟩ rfl rfl trivial ⟨rfl,rfl,rfl,trivial⟩ ?_ ?_
      · (try simp only[]);omega
      exact⟨by (try simp only[]);omega,e65⟩
    refine gx tv63 6 ?_;refine cD e69 (fun p71 e72=>?_) (fun p78 e79=>?_)
    · refine gx tv63 3 ?_;refine ef (ecallm (head_Read _) rfl rfl rfl rfl rfl ?_);generalize hr74:A0_ x1=r5;intro w73 w73p;have e75:=e72.trans (Aq_ hr74.symm);have :=Or_ x1
      (try simp only[hr74] at *)
      refine gm tv63 5 [] fun _=>?_;refine inln rfl rfl rfl trivial ?_;refine gx tv63 2 ?_;refine next ⟨(k+1),(⟨x.channel,x.kind,x.name,x.other,x.key,r5.1,x.body,x.n,x.m,x.yes⟩:Method),r5.2⟩ rfl rfl trivial ⟨rfl,rfl,rfl,trivial⟩ ?_ ?_
      · (try simp only[]);omega
      exact⟨by (try simp only[]);omega,e75⟩
    refine gx tv63 6 ?_;refine cD e79 (fun p81 e82=>?_) (fun p88 e89=>?_)
    · refine gx tv63 3 ?_;refine ef (ecallm (J1_ _ _) rfl rfl rfl rfl rfl ?_);generalize hr84:V_ x1 256=r6;intro w83 w83p;have e85:=e82.trans (Aq_ hr84.symm);have :=D9_ x1 256
      (try simp only[hr84] at *)
      refine gm tv63 5 [] fun _=>?_;refine inln rfl rfl rfl trivial ?_;refine gx tv63 2 ?_;refine next ⟨(k+1),(⟨x.channel,x.kind,x.name,x.other,x.key,x.head,r6.1,x.n,x.m,x.yes⟩:Method),r6.2⟩ rfl rfl trivial ⟨rfl,rfl,rfl,trivial⟩ ?_ ?_
      · (try simp only[]);omega
      exact⟨by (try simp only[]);omega,e85⟩
    refine gx tv63 6 ?_;refine cD e89 (fun p91 e92=>?_) (fun p98 e99=>?_)
    · refine gx tv63 3 ?_;refine ef (ecallm (I7_ _ _) rfl rfl rfl rfl rfl ?_);generalize hr94:S_ x1 8=r7;intro w93 w93p;have e95:=e92.trans (Aq_ hr94.symm);have :=Da_ x1 8
      (try simp only[hr94] at *)
      refine gm tv63 5 [] fun _=>?_;refine inln rfl rfl rfl trivial ?_;refine gx tv63 2 ?_;refine next ⟨(k+1),(⟨x.channel,x.kind,x.name,x.other,x.key,x.head,x.body,r7.1,x.m,x.yes⟩:Method),r7.2⟩ rfl rfl trivial ⟨rfl,rfl,rfl,trivial⟩ ?_ ?_
      · (try simp only[]);omega
      exact⟨by (try simp only[]);omega,e95⟩
    refine gx tv63 6 ?_;refine cD e99 (fun p101 e102=>?_) (fun p108 e109=>?_)
    · refine gx tv63 3 ?_;refine ef (ecallm (I7_ _ _) rfl rfl rfl rfl rfl ?_);generalize hr104:S_ x1 8=r8;intro w103 w103p;have e105:=e102.trans (Aq_ hr104.symm);have :=Da_ x1 8
      (try simp only[hr104] at *)
      refine gm tv63 5 [] fun _=>?_;refine inln rfl rfl rfl trivial ?_;refine gx tv63 2 ?_;refine next ⟨(k+1),(⟨x.channel,x.kind,x.name,x.other,x.key,x.head,x.body,x.n,r8.1,x.yes⟩:Method),r8.2⟩ rfl rfl trivial ⟨rfl,rfl,rfl,trivial⟩ ?_ ?_
      · (try simp only[]);omega
      exact⟨by (try simp only[]);omega,e105⟩
    refine gx tv63 6 ?_;refine cD e109 (fun p111 e112=>?_) (fun p124 e125=>?_)
    · refine gx tv63 3 ?_;refine ef (ecallm (I7_ _ _) rfl rfl rfl rfl rfl ?_);generalize hr114:S_ x1 1=r9;intro w113 w113p;have e115:=e112.trans (Aq_ hr114.symm);have :=Da_ x1 1
      (try simp only[hr114] at *)
      refine gm tv63 19 [] fun _=>?_;refine cD e115 (fun p119 e120=>?_) (fun p122 e123=>?_)
      · refine gx tv63 2 ?_;refine ef (ecallm (Lw_ _ _) rfl rfl rfl rfl rfl fun w121 w121p=>?_);refine gx tv63 2 ?_;refine inln rfl rfl rfl trivial ?_;refine gx tv63 2 ?_;refine next ⟨(k+1),(⟨x.channel,x.kind,x.name,x.other,x.key,x.head,x.body,x.n,x.m,decide (r9.1=1)⟩:Method),(A2_ r9.2 4)⟩ rfl rfl trivial ⟨rfl,rfl,rfl,trivial⟩ ?_ ?_
        · (try simp only[]);omega
        exact⟨by (try simp only[]);omega,e120⟩
      refine gx tv63 2 ?_;refine inln rfl rfl rfl trivial ?_;refine gx tv63 2 ?_;refine next ⟨(k+1),(⟨x.channel,x.kind,x.name,x.other,x.key,x.head,x.body,x.n,x.m,decide (r9.1=1)⟩:Method),r9.2⟩ rfl rfl trivial ⟨rfl,rfl,rfl,trivial⟩ ?_ ?_
      · (try simp only[]);omega
      exact⟨by (try simp only[]);omega,e123⟩
    refine gx tv63 2 ?_;refine inln rfl rfl rfl trivial ?_;refine gx tv63 2 ?_;refine next ⟨(k+1),x,x1⟩ rfl rfl trivial ⟨rfl,rfl,rfl,trivial⟩ ?_ ?_
    · (try simp only[]);omega
    exact⟨by (try simp only[]);omega,e125⟩
  have e126:=C1_ (f:=fun zz=>E_ zz x x1) hp16_2 (Gb_ hn17) (E_.eq_1 _ _);refine gx tv63 14 ?_;refine ef (ecallm (in_End _) rfl rfl rfl rfl rfl fun w127 w127p=>?_);refine gx tv63 9 ?_;refine cN e126 (fun p130 e131=>?_) (fun p134 e135=>?_)
  · refine gm tv63 10 [] fun _=>?_;subst e131;exact qr2
  refine gx tv63 6 ?_;refine cV e135 R0_ (Gr_ _) rfl fun r10 hr136 e138 w137=>?_;have hA138:=Sg_ x
  (try rw[<- hr136] at hA138)
  refine gx tv63 9 ?_;refine cN e138 (fun p142 e143=>?_) (fun p146 e147=>?_)
  · refine gm tv63 10 [] fun _=>?_;subst e143;exact qr2
  refine gm tv63 10 [] fun _=>?_;subst e147;exact qr2
theorem cb203:Ah_ Tryz.prog 203:=Z_ Tryz.func203 (by kernel_rfl) (by kernel_rfl)
def tbv64:Tb:=[(3,ty3),(27,ty27)]
theorem tv64:tbB Tryz.prog tbv64=true:=by kernel_rfl
theorem D6_ (i:RIn) (most:Int) (hi:RW i:=by first|assumption|exact Bm_ _|exact⟨by (try simp only[]);omega,by (try simp only[]);omega⟩):Fm Tryz.prog gb 203 [.int .i64 most] 303 (RIn.pc i) (.str ((As_ i most).1)) (RIn.pc ((As_ i most).2)):=by
  refine L6_ tv64 Tryz.func203 rfl Tryz.ntmps203 rfl cb203 rfl rfl rfl rfl fun w wp b N H hG=>?_;have e0:=As_.eq_1 i most;refine gx tv64 8 ?_;refine ef (ecallm (Cw_ _ _) rfl rfl rfl rfl rfl ?_);generalize hr2:Y_ i 2=r;intro w1 w1p;have e3:=e0.trans (Aq_ hr2.symm);have hA3:=Gx_ i 2 (by first|assumption|exact Bm_ _)
  (try rw[<- hr2.symm] at hA3)
  have hA4:=J7_ i 2
  (try rw[<- hr2.symm] at hA4)
  refine gx tv64 5 ?_;obtain⟨o,e_o,q_o⟩:=Cc_ e3;refine Dv_ (ι:=RIn) [0,4,5] [] (fun x=>[]) (fun x=>[(0, .box b 303 (RIn.pc x))]) (fun x=>o=x/\RW x) ?_ ?_
  · refine gx tv64 7 ?_;refine cD e_o (fun p7 e8=>?_) (fun p13 e14=>?_)
    · refine gx tv64 2 ?_;refine ef (ecallm (By_ _ _) rfl rfl rfl rfl rfl ?_);generalize hr10:U_ r.2 5=r1;intro w9 w9p;have e11:=e8.trans (Aq_ hr10.symm);have hA11:=Fd_ r.2 5 (by first|assumption|exact Bm_ _)
      (try rw[<- hr10.symm] at hA11)
      refine gx tv64 1 ?_;refine nX r1 ?_ trivial ⟨rfl,trivial⟩;exact⟨e11,(by first|assumption|exact Bm_ _)⟩
    refine gx tv64 1 ?_;refine nX r.2 ?_ trivial ⟨rfl,trivial⟩;exact⟨e14,(by first|assumption|exact Bm_ _)⟩
  rintro x ⟨hp15,hp15_3⟩;have e16:=D5_ q_o hp15;refine gx tv64 5 ?_;refine ef (ecallm (Mm_ _ _) rfl rfl rfl rfl rfl ?_);generalize hr18:A9_ x (IntKind.wrap .i64 r.1)=r2;intro w17 w17p;have e19:=e16.trans (Aq_ hr18.symm);have hA19:=rw_Raw x (IntKind.wrap .i64 r.1) (by first|assumption|exact Bm_ _)
  (try rw[<- hr18.symm] at hA19)
  have hA20:=raw_le x (IntKind.wrap .i64 r.1)
  (try rw[<- hr18.symm] at hA20)
  refine gx tv64 4 ?_;exact rm1 rfl rfl (Au_ (fun r:Bs×RIn=> .str r.1) e19 (ple rfl)) rfl rfl rfl (G1_ (fun r:Bs×RIn=>RIn.pc r.2) e19 (ples rfl))
theorem cb205:Ah_ Tryz.prog 205:=Z_ Tryz.func205 (by kernel_rfl) (by kernel_rfl)
def tbv65:Tb:=[(2,ty2),(3,ty3),(5,ty5),(9,ty9),(27,ty27),(47,ty47),(199,Wr_),(303,ty303)]
theorem tv65:tbB Tryz.prog tbv65=true:=by kernel_rfl
theorem Yi_ (i:RIn) (hi:RW i:=by first|assumption|exact Bm_ _|exact⟨by (try simp only[]);omega,by (try simp only[]);omega⟩):Fm Tryz.prog gb 205 [] 303 (RIn.pc i) (.sl Pair.pc ((Fb_ i).1)) (RIn.pc ((Fb_ i).2)):=by
  refine L6_ tv65 Tryz.func205 rfl Tryz.ntmps205 rfl cb205 rfl rfl rfl rfl fun w wp b N H hG=>?_;have e0:=Fb_.eq_1 i;refine gx tv65 8 ?_;refine ef (ecallm (Cw_ _ _) rfl rfl rfl rfl rfl ?_);generalize hr2:Y_ i 1=r;intro w1 w1p;have e3:=e0.trans (Aq_ hr2.symm);have hA3:=Gx_ i 1 (by first|assumption|exact Bm_ _)
  (try rw[<- hr2.symm] at hA3)
  have hA4:=J7_ i 1
  (try rw[<- hr2.symm] at hA4)
  refine gx tv65 11 ?_;refine cD e3 (fun p7 e8=>?_) (fun p132 e133=>?_)
  · refine gx tv65 2 ?_;refine ef (ecallm (By_ _ _) rfl rfl rfl rfl rfl ?_);generalize hr10:U_ r.2 6=r1;intro w9 w9p;have e11:=e8.trans (Aq_ hr10.symm);have hA11:=Fd_ r.2 6 (by first|assumption|exact Bm_ _)
    (try rw[<- hr10.symm] at hA11)
    refine gx tv65 14 ?_;refine sw_own (t:=4) (k:=4) (e:=199) 1 Pair.pc rfl rfl ?_;refine loop (ι:=Nat×(List Pair)×Nat×RIn×Value) [0,2,3] [] (fun ⟨f,h_1,k,x,u_h_1⟩=>[(4, .osl 1),(5, .int .i64 (k:Int))]) (fun ⟨f,h_1,k,x,u_h_1⟩=>[(1, .arr u_h_1 4 199 Pair.pc h_1),(0, .box b 303 (RIn.pc x))]) (fun ⟨f,h_1,k,x,u_h_1⟩=>(IntKind.wrap .i64 r.1).toNat-k<f/\Fb_ i=C8_ r f h_1 k x/\h_1.length<=k/\k<=255/\RW x) (fun ⟨f,h_1,k,x,u_h_1⟩=>f) ⟨((IntKind.wrap .i64 r.1).toNat-0+1),[],0,r1,(.slice none 0 0)⟩ ⟨rfl,rfl,trivial⟩ ⟨rfl,rfl,trivial⟩ ?_ ?_
    · exact⟨Nat.lt_succ_self _,e11,⟨by simp,by omega,by assumption⟩⟩
    rintro⟨f,h_1,k,x,u_h_1⟩ ⟨hp13_1,hp13_2,hp13_3⟩;obtain⟨hk1,hk2,hk3⟩:=hp13_3;have hwn:=wrapB (m:=r.1) (by omega) (by omega);obtain⟨f1,rfl⟩:∃ q,f=q+1:=⟨f-1,by omega⟩;have e_f1:=hp13_2.trans (C8_.eq_2 _ _ _ _ _);refine gy tv65 15 ?_;refine cE e_f1 (fun h14 e19=>?_) (fun h14 e124=>?_)
    · have h15:=bl h14;have p16:=dt h15;have h17:=br h14;have p18:=dt h17;refine gx tv65 7 ?_;refine ef (ecallm (D6_ _ _) rfl rfl rfl rfl rfl ?_);generalize hr21:As_ x 16=r2;intro w20 w20p;have e22:=e19.trans (Aq_ hr21.symm);have hA22:=I4_ x 16 (by first|assumption|exact Bm_ _)
      (try rw[<- hr21.symm] at hA22)
      refine gm tv65 8 [2] fun B25=>?_;refine ef (ecallm (Cw_ _ _) rfl rfl rfl rfl rfl ?_);generalize hr27:Y_ r2.2 1=r3;intro w26 w26p;have e28:=e22.trans (Aq_ hr27.symm);have hA28:=Gx_ r2.2 1 (by first|assumption|exact Bm_ _)
      (try rw[<- hr27.symm] at hA28)
      have hA29:=J7_ r2.2 1
      (try rw[<- hr27.symm] at hA29)
      refine gm tv65 13 [] fun _=>?_;refine cD e28 (fun p33 e34=>?_) (fun p55 e56=>?_)
      · refine gx tv65 2 ?_;refine ef (ecallm (Cw_ _ _) rfl rfl rfl rfl rfl ?_);generalize hr36:Y_ r3.2 8=r4;intro w35 w35p;have e37:=e34.trans (Aq_ hr36.symm);have hA37:=Gx_ r3.2 8 (by first|assumption|exact Bm_ _)
        (try rw[<- hr36.symm] at hA37)
        have hA38:=J7_ r3.2 8
        (try rw[<- hr36.symm] at hA38)
        refine gm tv65 15 [] fun _=>?_;refine cD e37 (fun p42 e43=>?_) (fun p51 e52=>?_)
        · refine gx tv65 4 ?_;refine ef (calll 1 rfl (Jq_ (⟨r2.1,(IntKind.wrap .u8 r3.1),(IntKind.wrap .i64 r4.1),[]⟩:Pair) _) rfl rfl rfl fun w44=>?_);have :=E1_ (⟨r2.1,(IntKind.wrap .u8 r3.1),(IntKind.wrap .i64 r4.1),[]⟩:Pair) h_1;refine ef (ecallm (By_ _ _) rfl rfl rfl rfl rfl ?_);generalize hr46:U_ r4.2 (Aj_ (⟨r2.1,(IntKind.wrap .u8 r3.1),(IntKind.wrap .i64 r4.1),[]⟩:Pair) h_1)=r5;intro w45 w45p;have e47:=e43.trans (Aq_ hr46.symm);have hA47:=Fd_ r4.2 (Aj_ (⟨r2.1,(IntKind.wrap .u8 r3.1),(IntKind.wrap .i64 r4.1),[]⟩:Pair) h_1) (by first|assumption|exact Bm_ _)
          (try rw[<- hr46.symm] at hA47)
          refine gx tv65 5 ?_;refine ef (bsl 3 Pair.pc [(⟨r2.1,(IntKind.wrap .u8 r3.1),(IntKind.wrap .i64 r4.1),[]⟩:Pair)] tv65 rfl rfl rfl rfl rfl (fun _=>rfl) rfl (by decide) (by decide) rfl fun u49=>?_);refine ef (app tv65 [(⟨r2.1,(IntKind.wrap .u8 r3.1),(IntKind.wrap .i64 r4.1),[]⟩:Pair)] rfl rfl rfl rfl rfl rfl rfl rfl rfl (src_o rfl rfl) (by first|omega|(simp;omega)) rfl fun u50=>?_);refine gy tv65 9 ?_;refine next ⟨f1,(h_1++[(⟨r2.1,(IntKind.wrap .u8 r3.1),(IntKind.wrap .i64 r4.1),[]⟩:Pair)]),(k+1),r5,(u50)⟩ rfl rfl ⟨rfl,rfl,trivial⟩ ⟨rfl,rfl,trivial⟩ ?_ ?_
          · (try simp only[]);omega
          exact⟨by (try simp only[]);omega,e47,⟨by (try simp only[List.length_append,List.length_cons,List.length_nil]);omega,by omega,by assumption⟩⟩
        refine gx tv65 5 ?_;refine ef (bsl 3 Pair.pc [(⟨r2.1,(IntKind.wrap .u8 r3.1),(IntKind.wrap .i64 r4.1),[]⟩:Pair)] tv65 rfl rfl rfl rfl rfl (fun _=>rfl) rfl (by decide) (by decide) rfl fun u53=>?_);refine ef (app tv65 [(⟨r2.1,(IntKind.wrap .u8 r3.1),(IntKind.wrap .i64 r4.1),[]⟩:Pair)] rfl rfl rfl rfl rfl rfl rfl rfl rfl (src_o rfl rfl) (by first|omega|(simp;omega)) rfl fun u54=>?_);refine gy tv65 9 ?_;refine next ⟨f1,(h_1++[(⟨r2.1,(IntKind.wrap .u8 r3.1),(IntKind.wrap .i64 r4.1),[]⟩:Pair)]),(k+1),r4.2,(u54)⟩ rfl rfl ⟨rfl,rfl,trivial⟩ ⟨rfl,rfl,trivial⟩ ?_ ?_
        · (try simp only[]);omega
        exact⟨by (try simp only[]);omega,e52,⟨by (try simp only[List.length_append,List.length_cons,List.length_nil]);omega,by omega,by assumption⟩⟩
      refine gx tv65 7 ?_;refine cD e56 (fun p58 e59=>?_) (fun p79 e80=>?_)
      · refine gx tv65 2 ?_;refine ef (ecallm (D6_ _ _) rfl rfl rfl rfl rfl ?_);generalize hr61:As_ r3.2 64=r6;intro w60 w60p;have e62:=e59.trans (Aq_ hr61.symm);have hA62:=I4_ r3.2 64 (by first|assumption|exact Bm_ _)
        (try rw[<- hr61.symm] at hA62)
        refine gm tv65 14 [] fun _=>?_;refine cD e62 (fun p66 e67=>?_) (fun p75 e76=>?_)
        · refine gx tv65 4 ?_;refine ef (calll 1 rfl (Jq_ (⟨r2.1,(IntKind.wrap .u8 r3.1),0,r6.1⟩:Pair) _) rfl rfl rfl fun w68=>?_);have :=E1_ (⟨r2.1,(IntKind.wrap .u8 r3.1),0,r6.1⟩:Pair) h_1;refine ef (ecallm (By_ _ _) rfl rfl rfl rfl rfl ?_);generalize hr70:U_ r6.2 (Aj_ (⟨r2.1,(IntKind.wrap .u8 r3.1),0,r6.1⟩:Pair) h_1)=r7;intro w69 w69p;have e71:=e67.trans (Aq_ hr70.symm);have hA71:=Fd_ r6.2 (Aj_ (⟨r2.1,(IntKind.wrap .u8 r3.1),0,r6.1⟩:Pair) h_1) (by first|assumption|exact Bm_ _)
          (try rw[<- hr70.symm] at hA71)
          refine gx tv65 5 ?_;refine ef (bsl 3 Pair.pc [(⟨r2.1,(IntKind.wrap .u8 r3.1),0,r6.1⟩:Pair)] tv65 rfl rfl rfl rfl rfl (fun _=>rfl) rfl (by decide) (by decide) rfl fun u73=>?_);refine ef (app tv65 [(⟨r2.1,(IntKind.wrap .u8 r3.1),0,r6.1⟩:Pair)] rfl rfl rfl rfl rfl rfl rfl rfl rfl (src_o rfl rfl) (by first|omega|(simp;omega)) rfl fun u74=>?_);refine gy tv65 9 ?_;refine next ⟨f1,(h_1++[(⟨r2.1,(IntKind.wrap .u8 r3.1),0,r6.1⟩:Pair)]),(k+1),r7,(u74)⟩ rfl rfl ⟨rfl,rfl,trivial⟩ ⟨rfl,rfl,trivial⟩ ?_ ?_
          · (try simp only[]);omega
          exact⟨by (try simp only[]);omega,e71,⟨by (try simp only[List.length_append,List.length_cons,List.length_nil]);omega,by omega,by assumption⟩⟩
        refine gx tv65 5 ?_;refine ef (bsl 3 Pair.pc [(⟨r2.1,(IntKind.wrap .u8 r3.1),0,r6.1⟩:Pair)] tv65 rfl rfl rfl rfl rfl (fun _=>rfl) rfl (by decide) (by decide) rfl fun u77=>?_);refine ef (app tv65 [(⟨r2.1,(IntKind.wrap .u8 r3.1),0,r6.1⟩:Pair)] rfl rfl rfl rfl rfl rfl rfl rfl rfl (src_o rfl rfl) (by first|omega|(simp;omega)) rfl fun u78=>?_);refine gy tv65 9 ?_;refine next ⟨f1,(h_1++[(⟨r2.1,(IntKind.wrap .u8 r3.1),0,r6.1⟩:Pair)]),(k+1),r6.2,(u78)⟩ rfl rfl ⟨rfl,rfl,trivial⟩ ⟨rfl,rfl,trivial⟩ ?_ ?_
        · (try simp only[]);omega
        exact⟨by (try simp only[]);omega,e76,⟨by (try simp only[List.length_append,List.length_cons,List.length_nil]);omega,by omega,by assumption⟩⟩
      refine gx tv65 7 ?_;refine cD e80 (fun p82 e83=>?_) (fun p104 e105=>?_)
      · refine gx tv65 2 ?_;refine ef (ecallm (Cw_ _ _) rfl rfl rfl rfl rfl ?_);generalize hr85:Y_ r3.2 1=r8;intro w84 w84p;have e86:=e83.trans (Aq_ hr85.symm);have hA86:=Gx_ r3.2 1 (by first|assumption|exact Bm_ _)
        (try rw[<- hr85.symm] at hA86)
        have hA87:=J7_ r3.2 1
        (try rw[<- hr85.symm] at hA87)
        refine gm tv65 15 [] fun _=>?_;refine cD e86 (fun p91 e92=>?_) (fun p100 e101=>?_)
        · refine gx tv65 4 ?_;refine ef (calll 1 rfl (Jq_ (⟨r2.1,(IntKind.wrap .u8 r3.1),(IntKind.wrap .i64 r8.1),[]⟩:Pair) _) rfl rfl rfl fun w93=>?_);have :=E1_ (⟨r2.1,(IntKind.wrap .u8 r3.1),(IntKind.wrap .i64 r8.1),[]⟩:Pair) h_1;refine ef (ecallm (By_ _ _) rfl rfl rfl rfl rfl ?_);generalize hr95:U_ r8.2 (Aj_ (⟨r2.1,(IntKind.wrap .u8 r3.1),(IntKind.wrap .i64 r8.1),[]⟩:Pair) h_1)=r9;intro w94 w94p;have e96:=e92.trans (Aq_ hr95.symm);have hA96:=Fd_ r8.2 (Aj_ (⟨r2.1,(IntKind.wrap .u8 r3.1),(IntKind.wrap .i64 r8.1),[]⟩:Pair) h_1) (by first|assumption|exact Bm_ _)
          (try rw[<- hr95.symm] at hA96)
          refine gx tv65 5 ?_;refine ef (bsl 3 Pair.pc [(⟨r2.1,(IntKind.wrap .u8 r3.1),(IntKind.wrap .i64 r8.1),[]⟩:Pair)] tv65 rfl rfl rfl rfl rfl (fun _=>rfl) rfl (by decide) (by decide) rfl fun u98=>?_);refine ef (app tv65 [(⟨r2.1,(IntKind.wrap .u8 r3.1),(IntKind.wrap .i64 r8.1),[]⟩:Pair)] rfl rfl rfl rfl rfl rfl rfl rfl rfl (src_o rfl rfl) (by first|omega|(simp;omega)) rfl fun u99=>?_);refine gy tv65 9 ?_;refine next ⟨f1,(h_1++[(⟨r2.1,(IntKind.wrap .u8 r3.1),(IntKind.wrap .i64 r8.1),[]⟩:Pair)]),(k+1),r9,(u99)⟩ rfl rfl ⟨rfl,rfl,trivial⟩ ⟨rfl,rfl,trivial⟩ ?_ ?_
          · (try simp only[]);omega
          exact⟨by (try simp only[]);omega,e96,⟨by (try simp only[List.length_append,List.length_cons,List.length_nil]);omega,by omega,by assumption⟩⟩
        refine gx tv65 5 ?_;refine ef (bsl 3 Pair.pc [(⟨r2.1,(IntKind.wrap .u8 r3.1),(IntKind.wrap .i64 r8.1),[]⟩:Pair)] tv65 rfl rfl rfl rfl rfl (fun _=>rfl) rfl (by decide) (by decide) rfl fun u102=>?_);refine ef (app tv65 [(⟨r2.1,(IntKind.wrap .u8 r3.1),(IntKind.wrap .i64 r8.1),[]⟩:Pair)] rfl rfl rfl rfl rfl rfl rfl rfl rfl (src_o rfl rfl) (by first|omega|(simp;omega)) rfl fun u103=>?_);refine gy tv65 9 ?_;refine next ⟨f1,(h_1++[(⟨r2.1,(IntKind.wrap .u8 r3.1),(IntKind.wrap .i64 r8.1),[]⟩:Pair)]),(k+1),r8.2,(u103)⟩ rfl rfl ⟨rfl,rfl,trivial⟩ ⟨rfl,rfl,trivial⟩ ?_ ?_
        · (try simp only[]);omega
        exact⟨by (try simp only[]);omega,e101,⟨by (try simp only[List.length_append,List.length_cons,List.length_nil]);omega,by omega,by assumption⟩⟩
      refine gx tv65 2 ?_;refine ef (ecallm (By_ _ _) rfl rfl rfl rfl rfl ?_);generalize hr107:U_ r3.2 8=r10;intro w106 w106p;have e108:=e105.trans (Aq_ hr107.symm);have hA108:=Fd_ r3.2 8 (by first|assumption|exact Bm_ _)
      (try rw[<- hr107.symm] at hA108)
      refine gx tv65 12 ?_;refine cD e108 (fun p111 e112=>?_) (fun p120 e121=>?_)
      · refine gx tv65 4 ?_;refine ef (calll 1 rfl (Jq_ (⟨r2.1,(IntKind.wrap .u8 r3.1),0,[]⟩:Pair) _) rfl rfl rfl fun w113=>?_);have :=E1_ (⟨r2.1,(IntKind.wrap .u8 r3.1),0,[]⟩:Pair) h_1;refine ef (ecallm (By_ _ _) rfl rfl rfl rfl rfl ?_);generalize hr115:U_ r10 (Aj_ (⟨r2.1,(IntKind.wrap .u8 r3.1),0,[]⟩:Pair) h_1)=r11;intro w114 w114p;have e116:=e112.trans (Aq_ hr115.symm);have hA116:=Fd_ r10 (Aj_ (⟨r2.1,(IntKind.wrap .u8 r3.1),0,[]⟩:Pair) h_1) (by first|assumption|exact Bm_ _)
        (try rw[<- hr115.symm] at hA116)
        refine gx tv65 5 ?_;refine ef (bsl 3 Pair.pc [(⟨r2.1,(IntKind.wrap .u8 r3.1),0,[]⟩:Pair)] tv65 rfl rfl rfl rfl rfl (fun _=>rfl) rfl (by decide) (by decide) rfl fun u118=>?_);refine ef (app tv65 [(⟨r2.1,(IntKind.wrap .u8 r3.1),0,[]⟩:Pair)] rfl rfl rfl rfl rfl rfl rfl rfl rfl (src_o rfl rfl) (by first|omega|(simp;omega)) rfl fun u119=>?_);refine gy tv65 9 ?_;refine next ⟨f1,(h_1++[(⟨r2.1,(IntKind.wrap .u8 r3.1),0,[]⟩:Pair)]),(k+1),r11,(u119)⟩ rfl rfl ⟨rfl,rfl,trivial⟩ ⟨rfl,rfl,trivial⟩ ?_ ?_
        · (try simp only[]);omega
        exact⟨by (try simp only[]);omega,e116,⟨by (try simp only[List.length_append,List.length_cons,List.length_nil]);omega,by omega,by assumption⟩⟩
      refine gx tv65 5 ?_;refine ef (bsl 3 Pair.pc [(⟨r2.1,(IntKind.wrap .u8 r3.1),0,[]⟩:Pair)] tv65 rfl rfl rfl rfl rfl (fun _=>rfl) rfl (by decide) (by decide) rfl fun u122=>?_);refine ef (app tv65 [(⟨r2.1,(IntKind.wrap .u8 r3.1),0,[]⟩:Pair)] rfl rfl rfl rfl rfl rfl rfl rfl rfl (src_o rfl rfl) (by first|omega|(simp;omega)) rfl fun u123=>?_);refine gy tv65 9 ?_;refine next ⟨f1,(h_1++[(⟨r2.1,(IntKind.wrap .u8 r3.1),0,[]⟩:Pair)]),(k+1),r10,(u123)⟩ rfl rfl ⟨rfl,rfl,trivial⟩ ⟨rfl,rfl,trivial⟩ ?_ ?_
      · (try simp only[]);omega
      exact⟨by (try simp only[]);omega,e121,⟨by (try simp only[List.length_append,List.length_cons,List.length_nil]);omega,by omega,by assumption⟩⟩
    refine gx tv65 15 ?_;refine cN e124 (fun p127 e128=>?_) (fun p130 e131=>?_)
    · refine gx tv65 7 ?_;exact rm1 rfl rfl (Au_ (fun r:(List Pair)×RIn=> .sl Pair.pc r.1) e128 Ak_) rfl rfl rfl (G1_ (fun r:(List Pair)×RIn=>RIn.pc r.2) e128 (ples rfl))
    refine gx tv65 8 ?_;refine givec 1 rfl ?_;refine gx tv65 1 ?_;exact rm1 rfl rfl (Au_ (fun r:(List Pair)×RIn=> .sl Pair.pc r.1) e131 (ple rfl)) rfl rfl rfl (G1_ (fun r:(List Pair)×RIn=>RIn.pc r.2) e131 (ples rfl))
  refine gx tv65 14 ?_;refine sw_own (t:=4) (k:=4) (e:=199) 1 Pair.pc rfl rfl ?_;refine loop (ι:=Nat×(List Pair)×Nat×RIn×Value) [0,2,3] [] (fun ⟨f3,h_2,k1,x1,u_h_2⟩=>[(4, .osl 1),(5, .int .i64 (k1:Int))]) (fun ⟨f3,h_2,k1,x1,u_h_2⟩=>[(1, .arr u_h_2 4 199 Pair.pc h_2),(0, .box b 303 (RIn.pc x1))]) (fun ⟨f3,h_2,k1,x1,u_h_2⟩=>(IntKind.wrap .i64 r.1).toNat-k1<f3/\Fb_ i=Bc_ r f3 h_2 k1 x1/\h_2.length<=k1/\k1<=255/\RW x1) (fun ⟨f3,h_2,k1,x1,u_h_2⟩=>f3) ⟨((IntKind.wrap .i64 r.1).toNat-0+1),[],0,r.2,(.slice none 0 0)⟩ ⟨rfl,rfl,trivial⟩ ⟨rfl,rfl,trivial⟩ ?_ ?_
  · exact⟨Nat.lt_succ_self _,e133,⟨by simp,by omega,by assumption⟩⟩
  rintro⟨f3,h_2,k1,x1,u_h_2⟩ ⟨hp134_1,hp134_2,hp134_3⟩;obtain⟨hk1,hk2,hk3⟩:=hp134_3;have hwn:=wrapB (m:=r.1) (by omega) (by omega);obtain⟨f4,rfl⟩:∃ q,f3=q+1:=⟨f3-1,by omega⟩;have e_f4:=hp134_2.trans (Bc_.eq_2 _ _ _ _ _);refine gy tv65 15 ?_;refine cE e_f4 (fun h135 e140=>?_) (fun h135 e245=>?_)
  · have h136:=bl h135;have p137:=dt h136;have h138:=br h135;have p139:=dt h138;refine gx tv65 7 ?_;refine ef (ecallm (D6_ _ _) rfl rfl rfl rfl rfl ?_);generalize hr142:As_ x1 16=r12;intro w141 w141p;have e143:=e140.trans (Aq_ hr142.symm);have hA143:=I4_ x1 16 (by first|assumption|exact Bm_ _)
    (try rw[<- hr142.symm] at hA143)
    refine gm tv65 8 [2] fun B146=>?_;refine ef (ecallm (Cw_ _ _) rfl rfl rfl rfl rfl ?_);generalize hr148:Y_ r12.2 1=r13;intro w147 w147p;have e149:=e143.trans (Aq_ hr148.symm);have hA149:=Gx_ r12.2 1 (by first|assumption|exact Bm_ _)
    (try rw[<- hr148.symm] at hA149)
    have hA150:=J7_ r12.2 1
    (try rw[<- hr148.symm] at hA150)
    refine gm tv65 13 [] fun _=>?_;refine cD e149 (fun p154 e155=>?_) (fun p176 e177=>?_)
    · refine gx tv65 2 ?_;refine ef (ecallm (Cw_ _ _) rfl rfl rfl rfl rfl ?_);generalize hr157:Y_ r13.2 8=r14;intro w156 w156p;have e158:=e155.trans (Aq_ hr157.symm);have hA158:=Gx_ r13.2 8 (by first|assumption|exact Bm_ _)
      (try rw[<- hr157.symm] at hA158)
      have hA159:=J7_ r13.2 8
      (try rw[<- hr157.symm] at hA159)
      refine gm tv65 15 [] fun _=>?_;refine cD e158 (fun p163 e164=>?_) (fun p172 e173=>?_)
      · refine gx tv65 4 ?_;refine ef (calll 1 rfl (Jq_ (⟨r12.1,(IntKind.wrap .u8 r13.1),(IntKind.wrap .i64 r14.1),[]⟩:Pair) _) rfl rfl rfl fun w165=>?_);have :=E1_ (⟨r12.1,(IntKind.wrap .u8 r13.1),(IntKind.wrap .i64 r14.1),[]⟩:Pair) h_2;refine ef (ecallm (By_ _ _) rfl rfl rfl rfl rfl ?_);generalize hr167:U_ r14.2 (Aj_ (⟨r12.1,(IntKind.wrap .u8 r13.1),(IntKind.wrap .i64 r14.1),[]⟩:Pair) h_2)=r15;intro w166 w166p;have e168:=e164.trans (Aq_ hr167.symm);have hA168:=Fd_ r14.2 (Aj_ (⟨r12.1,(IntKind.wrap .u8 r13.1),(IntKind.wrap .i64 r14.1),[]⟩:Pair) h_2) (by first|assumption|exact Bm_ _)
        (try rw[<- hr167.symm] at hA168)
        refine gx tv65 5 ?_;refine ef (bsl 3 Pair.pc [(⟨r12.1,(IntKind.wrap .u8 r13.1),(IntKind.wrap .i64 r14.1),[]⟩:Pair)] tv65 rfl rfl rfl rfl rfl (fun _=>rfl) rfl (by decide) (by decide) rfl fun u170=>?_);refine ef (app tv65 [(⟨r12.1,(IntKind.wrap .u8 r13.1),(IntKind.wrap .i64 r14.1),[]⟩:Pair)] rfl rfl rfl rfl rfl rfl rfl rfl rfl (src_o rfl rfl) (by first|omega|(simp;omega)) rfl fun u171=>?_);refine gy tv65 9 ?_;refine next ⟨f4,(h_2++[(⟨r12.1,(IntKind.wrap .u8 r13.1),(IntKind.wrap .i64 r14.1),[]⟩:Pair)]),(k1+1),r15,(u171)⟩ rfl rfl ⟨rfl,rfl,trivial⟩ ⟨rfl,rfl,trivial⟩ ?_ ?_
        · (try simp only[]);omega
        exact⟨by (try simp only[]);omega,e168,⟨by (try simp only[List.length_append,List.length_cons,List.length_nil]);omega,by omega,by assumption⟩⟩
      refine gx tv65 5 ?_;refine ef (bsl 3 Pair.pc [(⟨r12.1,(IntKind.wrap .u8 r13.1),(IntKind.wrap .i64 r14.1),[]⟩:Pair)] tv65 rfl rfl rfl rfl rfl (fun _=>rfl) rfl (by decide) (by decide) rfl fun u174=>?_);refine ef (app tv65 [(⟨r12.1,(IntKind.wrap .u8 r13.1),(IntKind.wrap .i64 r14.1),[]⟩:Pair)] rfl rfl rfl rfl rfl rfl rfl rfl rfl (src_o rfl rfl) (by first|omega|(simp;omega)) rfl fun u175=>?_);refine gy tv65 9 ?_;refine next ⟨f4,(h_2++[(⟨r12.1,(IntKind.wrap .u8 r13.1),(IntKind.wrap .i64 r14.1),[]⟩:Pair)]),(k1+1),r14.2,(u175)⟩ rfl rfl ⟨rfl,rfl,trivial⟩ ⟨rfl,rfl,trivial⟩ ?_ ?_
      · (try simp only[]);omega
      exact⟨by (try simp only[]);omega,e173,⟨by (try simp only[List.length_append,List.length_cons,List.length_nil]);omega,by omega,by assumption⟩⟩
    refine gx tv65 7 ?_;refine cD e177 (fun p179 e180=>?_) (fun p200 e201=>?_)
    · refine gx tv65 2 ?_;refine ef (ecallm (D6_ _ _) rfl rfl rfl rfl rfl ?_);generalize hr182:As_ r13.2 64=r16;intro w181 w181p;have e183:=e180.trans (Aq_ hr182.symm);have hA183:=I4_ r13.2 64 (by first|assumption|exact Bm_ _)
      (try rw[<- hr182.symm] at hA183)
      refine gm tv65 14 [] fun _=>?_;refine cD e183 (fun p187 e188=>?_) (fun p196 e197=>?_)
      · refine gx tv65 4 ?_;refine ef (calll 1 rfl (Jq_ (⟨r12.1,(IntKind.wrap .u8 r13.1),0,r16.1⟩:Pair) _) rfl rfl rfl fun w189=>?_);have :=E1_ (⟨r12.1,(IntKind.wrap .u8 r13.1),0,r16.1⟩:Pair) h_2;refine ef (ecallm (By_ _ _) rfl rfl rfl rfl rfl ?_);generalize hr191:U_ r16.2 (Aj_ (⟨r12.1,(IntKind.wrap .u8 r13.1),0,r16.1⟩:Pair) h_2)=r17;intro w190 w190p;have e192:=e188.trans (Aq_ hr191.symm);have hA192:=Fd_ r16.2 (Aj_ (⟨r12.1,(IntKind.wrap .u8 r13.1),0,r16.1⟩:Pair) h_2) (by first|assumption|exact Bm_ _)
        (try rw[<- hr191.symm] at hA192)
        refine gx tv65 5 ?_;refine ef (bsl 3 Pair.pc [(⟨r12.1,(IntKind.wrap .u8 r13.1),0,r16.1⟩:Pair)] tv65 rfl rfl rfl rfl rfl (fun _=>rfl) rfl (by decide) (by decide) rfl fun u194=>?_);refine ef (app tv65 [(⟨r12.1,(IntKind.wrap .u8 r13.1),0,r16.1⟩:Pair)] rfl rfl rfl rfl rfl rfl rfl rfl rfl (src_o rfl rfl) (by first|omega|(simp;omega)) rfl fun u195=>?_);refine gy tv65 9 ?_;refine next ⟨f4,(h_2++[(⟨r12.1,(IntKind.wrap .u8 r13.1),0,r16.1⟩:Pair)]),(k1+1),r17,(u195)⟩ rfl rfl ⟨rfl,rfl,trivial⟩ ⟨rfl,rfl,trivial⟩ ?_ ?_
        · (try simp only[]);omega
        exact⟨by (try simp only[]);omega,e192,⟨by (try simp only[List.length_append,List.length_cons,List.length_nil]);omega,by omega,by assumption⟩⟩
      refine gx tv65 5 ?_;refine ef (bsl 3 Pair.pc [(⟨r12.1,(IntKind.wrap .u8 r13.1),0,r16.1⟩:Pair)] tv65 rfl rfl rfl rfl rfl (fun _=>rfl) rfl (by decide) (by decide) rfl fun u198=>?_);refine ef (app tv65 [(⟨r12.1,(IntKind.wrap .u8 r13.1),0,r16.1⟩:Pair)] rfl rfl rfl rfl rfl rfl rfl rfl rfl (src_o rfl rfl) (by first|omega|(simp;omega)) rfl fun u199=>?_);refine gy tv65 9 ?_;refine next ⟨f4,(h_2++[(⟨r12.1,(IntKind.wrap .u8 r13.1),0,r16.1⟩:Pair)]),(k1+1),r16.2,(u199)⟩ rfl rfl ⟨rfl,rfl,trivial⟩ ⟨rfl,rfl,trivial⟩ ?_ ?_
      · (try simp only[]);omega
      exact⟨by (try simp only[]);omega,e197,⟨by (try simp only[List.length_append,List.length_cons,List.length_nil]);omega,by omega,by assumption⟩⟩
    refine gx tv65 7 ?_;refine cD e201 (fun p203 e204=>?_) (fun p225 e226=>?_)
    · refine gx tv65 2 ?_;refine ef (ecallm (Cw_ _ _) rfl rfl rfl rfl rfl ?_);generalize hr206:Y_ r13.2 1=r18;intro w205 w205p;have e207:=e204.trans (Aq_ hr206.symm);have hA207:=Gx_ r13.2 1 (by first|assumption|exact Bm_ _)
      (try rw[<- hr206.symm] at hA207)
      have hA208:=J7_ r13.2 1
      (try rw[<- hr206.symm] at hA208)
      refine gm tv65 15 [] fun _=>?_;refine cD e207 (fun p212 e213=>?_) (fun p221 e222=>?_)
      · refine gx tv65 4 ?_;refine ef (calll 1 rfl (Jq_ (⟨r12.1,(IntKind.wrap .u8 r13.1),(IntKind.wrap .i64 r18.1),[]⟩:Pair) _) rfl rfl rfl fun w214=>?_);have :=E1_ (⟨r12.1,(IntKind.wrap .u8 r13.1),(IntKind.wrap .i64 r18.1),[]⟩:Pair) h_2;refine ef (ecallm (By_ _ _) rfl rfl rfl rfl rfl ?_);generalize hr216:U_ r18.2 (Aj_ (⟨r12.1,(IntKind.wrap .u8 r13.1),(IntKind.wrap .i64 r18.1),[]⟩:Pair) h_2)=r19;intro w215 w215p;have e217:=e213.trans (Aq_ hr216.symm);have hA217:=Fd_ r18.2 (Aj_ (⟨r12.1,(IntKind.wrap .u8 r13.1),(IntKind.wrap .i64 r18.1),[]⟩:Pair) h_2) (by first|assumption|exact Bm_ _)
        (try rw[<- hr216.symm] at hA217)
        refine gx tv65 5 ?_;refine ef (bsl 3 Pair.pc [(⟨r12.1,(IntKind.wrap .u8 r13.1),(IntKind.wrap .i64 r18.1),[]⟩:Pair)] tv65 rfl rfl rfl rfl rfl (fun _=>rfl) rfl (by decide) (by decide) rfl fun u219=>?_);refine ef (app tv65 [(⟨r12.1,(IntKind.wrap .u8 r13.1),(IntKind.wrap .i64 r18.1),[]⟩:Pair)] rfl rfl rfl rfl rfl rfl rfl rfl rfl (src_o rfl rfl) (by first|omega|(simp;omega)) rfl fun u220=>?_);refine gy tv65 9 ?_;refine next ⟨f4,(h_2++[(⟨r12.1,(IntKind.wrap .u8 r13.1),(IntKind.wrap .i64 r18.1),[]⟩:Pair)]),(k1+1),r19,(u220)⟩ rfl rfl ⟨rfl,rfl,trivial⟩ ⟨rfl,rfl,trivial⟩ ?_ ?_
        · (try simp only[]);omega
        exact⟨by (try simp only[]);omega,e217,⟨by (try simp only[List.length_append,List.length_cons,List.length_nil]);omega,by omega,by assumption⟩⟩
      refine gx tv65 5 ?_;refine ef (bsl 3 Pair.pc [(⟨r12.1,(IntKind.wrap .u8 r13.1),(IntKind.wrap .i64 r18.1),[]⟩:Pair)] tv65 rfl rfl rfl rfl rfl (fun _=>rfl) rfl (by decide) (by decide) rfl fun u223=>?_);refine ef (app tv65 [(⟨r12.1,(IntKind.wrap .u8 r13.1),(IntKind.wrap .i64 r18.1),[]⟩:Pair)] rfl rfl rfl rfl rfl rfl rfl rfl rfl (src_o rfl rfl) (by first|omega|(simp;omega)) rfl fun u224=>?_);refine gy tv65 9 ?_;refine next ⟨f4,(h_2++[(⟨r12.1,(IntKind.wrap .u8 r13.1),(IntKind.wrap .i64 r18.1),[]⟩:Pair)]),(k1+1),r18.2,(u224)⟩ rfl rfl ⟨rfl,rfl,trivial⟩ ⟨rfl,rfl,trivial⟩ ?_ ?_
      · (try simp only[]);omega
      exact⟨by (try simp only[]);omega,e222,⟨by (try simp only[List.length_append,List.length_cons,List.length_nil]);omega,by omega,by assumption⟩⟩
    refine gx tv65 2 ?_;refine ef (ecallm (By_ _ _) rfl rfl rfl rfl rfl ?_);generalize hr228:U_ r13.2 8=r20;intro w227 w227p;have e229:=e226.trans (Aq_ hr228.symm);have hA229:=Fd_ r13.2 8 (by first|assumption|exact Bm_ _)
    (try rw[<- hr228.symm] at hA229)
    refine gx tv65 12 ?_;refine cD e229 (fun p232 e233=>?_) (fun p241 e242=>?_)
    · refine gx tv65 4 ?_;refine ef (calll 1 rfl (Jq_ (⟨r12.1,(IntKind.wrap .u8 r13.1),0,[]⟩:Pair) _) rfl rfl rfl fun w234=>?_);have :=E1_ (⟨r12.1,(IntKind.wrap .u8 r13.1),0,[]⟩:Pair) h_2;refine ef (ecallm (By_ _ _) rfl rfl rfl rfl rfl ?_);generalize hr236:U_ r20 (Aj_ (⟨r12.1,(IntKind.wrap .u8 r13.1),0,[]⟩:Pair) h_2)=r21;intro w235 w235p;have e237:=e233.trans (Aq_ hr236.symm);have hA237:=Fd_ r20 (Aj_ (⟨r12.1,(IntKind.wrap .u8 r13.1),0,[]⟩:Pair) h_2) (by first|assumption|exact Bm_ _)
      (try rw[<- hr236.symm] at hA237)
      refine gx tv65 5 ?_;refine ef (bsl 3 Pair.pc [(⟨r12.1,(IntKind.wrap .u8 r13.1),0,[]⟩:Pair)] tv65 rfl rfl rfl rfl rfl (fun _=>rfl) rfl (by decide) (by decide) rfl fun u239=>?_);refine ef (app tv65 [(⟨r12.1,(IntKind.wrap .u8 r13.1),0,[]⟩:Pair)] rfl rfl rfl rfl rfl rfl rfl rfl rfl (src_o rfl rfl) (by first|omega|(simp;omega)) rfl fun u240=>?_);refine gy tv65 9 ?_;refine next ⟨f4,(h_2++[(⟨r12.1,(IntKind.wrap .u8 r13.1),0,[]⟩:Pair)]),(k1+1),r21,(u240)⟩ rfl rfl ⟨rfl,rfl,trivial⟩ ⟨rfl,rfl,trivial⟩ ?_ ?_
      · (try simp only[]);omega
      exact⟨by (try simp only[]);omega,e237,⟨by (try simp only[List.length_append,List.length_cons,List.length_nil]);omega,by omega,by assumption⟩⟩
    refine gx tv65 5 ?_;refine ef (bsl 3 Pair.pc [(⟨r12.1,(IntKind.wrap .u8 r13.1),0,[]⟩:Pair)] tv65 rfl rfl rfl rfl rfl (fun _=>rfl) rfl (by decide) (by decide) rfl fun u243=>?_);refine ef (app tv65 [(⟨r12.1,(IntKind.wrap .u8 r13.1),0,[]⟩:Pair)] rfl rfl rfl rfl rfl rfl rfl rfl rfl (src_o rfl rfl) (by first|omega|(simp;omega)) rfl fun u244=>?_);refine gy tv65 9 ?_;refine next ⟨f4,(h_2++[(⟨r12.1,(IntKind.wrap .u8 r13.1),0,[]⟩:Pair)]),(k1+1),r20,(u244)⟩ rfl rfl ⟨rfl,rfl,trivial⟩ ⟨rfl,rfl,trivial⟩ ?_ ?_
    · (try simp only[]);omega
    exact⟨by (try simp only[]);omega,e242,⟨by (try simp only[List.length_append,List.length_cons,List.length_nil]);omega,by omega,by assumption⟩⟩
  refine gx tv65 15 ?_;refine cN e245 (fun p248 e249=>?_) (fun p251 e252=>?_)
  · refine gx tv65 7 ?_;exact rm1 rfl rfl (Au_ (fun r:(List Pair)×RIn=> .sl Pair.pc r.1) e249 Ak_) rfl rfl rfl (G1_ (fun r:(List Pair)×RIn=>RIn.pc r.2) e249 (ples rfl))
  refine gx tv65 8 ?_;refine givec 1 rfl ?_;refine gx tv65 1 ?_;exact rm1 rfl rfl (Au_ (fun r:(List Pair)×RIn=> .sl Pair.pc r.1) e252 (ple rfl)) rfl rfl rfl (G1_ (fun r:(List Pair)×RIn=>RIn.pc r.2) e252 (ples rfl))
abbrev ty269:TI:=⟨.agg [(0,1),(1,1),(2,1)],3,24,[.int .u8 0, .int .u8 0, .str []]⟩
def tbv66:Tb:=[(4,ty4),(5,ty5),(9,ty9),(27,ty27),(47,ty47),(67,ty67),(140,ty140),(269,ty269),(303,ty303)]
theorem tv66:tbB Tryz.prog tbv66=true:=by kernel_rfl
theorem X3_ (f:Frame):Fn Tryz.prog gb 163 [.agg (Frame.pc f)] (.tup [.agg (Method.pc ((Hb_ f).1)), .int .i64 ((Hb_ f).2)]):=by
  refine fC Tryz.func163 tv66 Tryz.ntmps163 fun w N H hG=>?_;have e0:=Hb_.eq_1 f;generalize Hb_ f=z at e0 ⊢;refine gm tv66 15 [0,1] fun B2=>?_;refine cD e0 (fun p5 e6=>?_) (fun p8 e9=>?_)
  · refine gm tv66 9 [] fun _=>?_;subst e6;exact qr2
  refine gx tv66 6 ?_;refine cV e9 R10_ (Xg_ _) rfl fun r hr10 e12 w11=>?_;refine gm tv66 25 [2,3,4] fun B14=>?_;obtain⟨o,e_o,q_o⟩:=Ig_ e12;refine Dv_ (ι:=Method×RIn) [2,3,4,5,6] [0,1,2] (fun ⟨x,x1⟩=>[]) (fun ⟨x,x1⟩=>[(3, .box (B14 1) 67 (Method.pc x)),(4, .box (B14 2) 303 (RIn.pc x1))]) (fun ⟨x,x1⟩=>o=(x,x1)/\RW x1) ?_ ?_
  · refine gx tv66 6 ?_;refine cE e_o (fun h17 e18=>?_) (fun h17 e24=>?_)
    · refine gx tv66 2 ?_;refine ef (ecallm (D6_ (⟨f.body,0,0⟩:RIn) _) rfl rfl rfl rfl rfl ?_);generalize hr20:As_ (⟨f.body,0,0⟩:RIn) 16=r1;intro w19 w19p;have e21:=e18.trans (Aq_ hr20.symm);have hA21:=I4_ (⟨f.body,0,0⟩:RIn) 16 (by first|assumption|exact Bm_ _)
      (try rw[<- hr20.symm] at hA21)
      refine gm tv66 3 [] fun _=>?_;refine nX ⟨(⟨f.channel,f.kind,r1.1,[],[],[],[],0,0,false⟩:Method),r1.2⟩ ?_ trivial ⟨rfl,rfl,trivial⟩;exact⟨e21,(by first|assumption|exact Bm_ _)⟩
    refine gx tv66 1 ?_;refine nX ⟨(⟨f.channel,f.kind,[],[],[],[],[],0,0,false⟩:Method),(⟨f.body,0,0⟩:RIn)⟩ ?_ trivial ⟨rfl,rfl,trivial⟩;exact⟨e24,(by first|assumption|exact Bm_ _)⟩
  rintro⟨x,x1⟩ ⟨hp25,hp25_3⟩;have e26:=L3_ q_o hp25;refine gx tv66 2 ?_;obtain⟨o1,e_o1,q_o1⟩:=Ig_ e26;refine Dv_ (ι:=Method×RIn) [2,3,4,5,6] [0,1,2] (fun ⟨x2,x3⟩=>[]) (fun ⟨x2,x3⟩=>[(3, .box (B14 1) 67 (Method.pc x2)),(4, .box (B14 2) 303 (RIn.pc x3))]) (fun ⟨x2,x3⟩=>o1=(x2,x3)/\RW x3) ?_ ?_
  · refine gy tv66 11 ?_;refine cE e_o1 (fun h27 e31=>?_) (fun h27 e38=>?_)
    · have h28:=bl h27;have h29:=Br_ h28;have h30:=br h27;refine gx tv66 2 ?_;refine ef (ecallm (Cw_ _ _) rfl rfl rfl rfl rfl ?_);generalize hr33:Y_ x1 8=r2;intro w32 w32p;have e34:=e31.trans (Aq_ hr33.symm);have hA34:=Gx_ x1 8 (by first|assumption|exact Bm_ _)
      (try rw[<- hr33.symm] at hA34)
      have hA35:=J7_ x1 8
      (try rw[<- hr33.symm] at hA35)
      refine gm tv66 3 [] fun _=>?_;refine nX ⟨(⟨x.channel,x.kind,x.name,x.other,x.key,x.head,x.body,r2.1,x.m,x.yes⟩:Method),r2.2⟩ ?_ trivial ⟨rfl,rfl,trivial⟩;exact⟨e34,(by first|assumption|exact Bm_ _)⟩
    refine gx tv66 1 ?_;refine nX ⟨x,x1⟩ ?_ trivial ⟨rfl,rfl,trivial⟩;exact⟨e38,(by first|assumption|exact Bm_ _)⟩
  rintro⟨x2,x3⟩ ⟨hp39,hp39_3⟩;have e40:=L3_ q_o1 hp39;refine gx tv66 2 ?_;obtain⟨o2,e_o2,q_o2⟩:=Ig_ e40;refine Dv_ (ι:=Method×RIn) [2,3,4,5,6] [0,1,2] (fun ⟨x4,x5⟩=>[]) (fun ⟨x4,x5⟩=>[(3, .box (B14 1) 67 (Method.pc x4)),(4, .box (B14 2) 303 (RIn.pc x5))]) (fun ⟨x4,x5⟩=>o2=(x4,x5)/\RW x5) ?_ ?_
  · refine gy tv66 11 ?_;refine cE e_o2 (fun h41 e45=>?_) (fun h41 e52=>?_)
    · have h42:=bl h41;have h43:=Br_ h42;have h44:=br h41;refine gx tv66 2 ?_;refine ef (ecallm (Cw_ _ _) rfl rfl rfl rfl rfl ?_);generalize hr47:Y_ x3 8=r3;intro w46 w46p;have e48:=e45.trans (Aq_ hr47.symm);have hA48:=Gx_ x3 8 (by first|assumption|exact Bm_ _)
      (try rw[<- hr47.symm] at hA48)
      have hA49:=J7_ x3 8
      (try rw[<- hr47.symm] at hA49)
      refine gm tv66 3 [] fun _=>?_;refine nX ⟨(⟨x2.channel,x2.kind,x2.name,x2.other,x2.key,x2.head,x2.body,x2.n,r3.1,x2.yes⟩:Method),r3.2⟩ ?_ trivial ⟨rfl,rfl,trivial⟩;exact⟨e48,(by first|assumption|exact Bm_ _)⟩
    refine gx tv66 1 ?_;refine nX ⟨x2,x3⟩ ?_ trivial ⟨rfl,rfl,trivial⟩;exact⟨e52,(by first|assumption|exact Bm_ _)⟩
  rintro⟨x4,x5⟩ ⟨hp53,hp53_3⟩;have e54:=L3_ q_o2 hp53;refine gx tv66 2 ?_;obtain⟨o3,e_o3,q_o3⟩:=Ig_ e54;refine Dv_ (ι:=Method×RIn) [2,3,4,5,6] [0,1,2] (fun ⟨x6,x7⟩=>[]) (fun ⟨x6,x7⟩=>[(3, .box (B14 1) 67 (Method.pc x6)),(4, .box (B14 2) 303 (RIn.pc x7))]) (fun ⟨x6,x7⟩=>o3=(x6,x7)/\RW x7) ?_ ?_
  · refine gx tv66 6 ?_;refine cE e_o3 (fun h55 e56=>?_) (fun h55 e62=>?_)
    · refine gx tv66 2 ?_;refine ef (ecallm (D6_ _ _) rfl rfl rfl rfl rfl ?_);generalize hr58:As_ x5 16=r4;intro w57 w57p;have e59:=e56.trans (Aq_ hr58.symm);have hA59:=I4_ x5 16 (by first|assumption|exact Bm_ _)
      (try rw[<- hr58.symm] at hA59)
      refine gm tv66 3 [] fun _=>?_;refine nX ⟨(⟨x4.channel,x4.kind,x4.name,r4.1,x4.key,x4.head,x4.body,x4.n,x4.m,x4.yes⟩:Method),r4.2⟩ ?_ trivial ⟨rfl,rfl,trivial⟩;exact⟨e59,(by first|assumption|exact Bm_ _)⟩
    refine gx tv66 1 ?_;refine nX ⟨x4,x5⟩ ?_ trivial ⟨rfl,rfl,trivial⟩;exact⟨e62,(by first|assumption|exact Bm_ _)⟩
  rintro⟨x6,x7⟩ ⟨hp63,hp63_3⟩;have e64:=L3_ q_o3 hp63;refine gx tv66 2 ?_;obtain⟨o4,e_o4,q_o4⟩:=Ig_ e64;refine Dv_ (ι:=Method×RIn) [2,3,4,5,6] [0,1,2] (fun ⟨x8,x9⟩=>[]) (fun ⟨x8,x9⟩=>[(3, .box (B14 1) 67 (Method.pc x8)),(4, .box (B14 2) 303 (RIn.pc x9))]) (fun ⟨x8,x9⟩=>o4=(x8,x9)/\RW x9) ?_ ?_
  · refine gx tv66 6 ?_;refine cE e_o4 (fun h65 e66=>?_) (fun h65 e77=>?_)
    · refine gx tv66 3 ?_;refine ef (ecallm (D6_ _ _) rfl rfl rfl rfl rfl ?_);generalize hr68:As_ x7 64=r5;intro w67 w67p;have e69:=e66.trans (Aq_ hr68.symm);have hA69:=I4_ x7 64 (by first|assumption|exact Bm_ _)
      (try rw[<- hr68.symm] at hA69)
      refine gm tv66 6 [] fun _=>?_;refine ef (ecallm (Yi_ _) rfl rfl rfl rfl rfl ?_);generalize hr73:Fb_ r5.2=r6;intro w72 w72p;have e74:=e69.trans (Aq_ hr73.symm);have hA74:=rw_Read r5.2 (by first|assumption|exact Bm_ _)
      (try rw[<- hr73.symm] at hA74)
      refine gm tv66 3 [] fun _=>?_;refine nX ⟨(⟨x6.channel,x6.kind,x6.name,x6.other,r5.1,r6.1,x6.body,x6.n,x6.m,x6.yes⟩:Method),r6.2⟩ ?_ trivial ⟨rfl,rfl,trivial⟩;exact⟨e74,(by first|assumption|exact Bm_ _)⟩
    refine gx tv66 1 ?_;refine nX ⟨x6,x7⟩ ?_ trivial ⟨rfl,rfl,trivial⟩;exact⟨e77,(by first|assumption|exact Bm_ _)⟩
  rintro⟨x8,x9⟩ ⟨hp78,hp78_3⟩;have e79:=L3_ q_o4 hp78;refine gx tv66 2 ?_;obtain⟨o5,e_o5,q_o5⟩:=Ig_ e79;refine Dv_ (ι:=Method×RIn) [2,3,4,5,6] [0,1,2] (fun ⟨x10,x11⟩=>[]) (fun ⟨x10,x11⟩=>[(3, .box (B14 1) 67 (Method.pc x10)),(4, .box (B14 2) 303 (RIn.pc x11))]) (fun ⟨x10,x11⟩=>o5=(x10,x11)/\RW x11) ?_ ?_
  · refine gx tv66 6 ?_;refine cE e_o5 (fun h80 e81=>?_) (fun h80 e93=>?_)
    · refine gx tv66 3 ?_;refine ef (ecallm (Cw_ _ _) rfl rfl rfl rfl rfl ?_);generalize hr83:Y_ x9 8=r7;intro w82 w82p;have e84:=e81.trans (Aq_ hr83.symm);have hA84:=Gx_ x9 8 (by first|assumption|exact Bm_ _)
      (try rw[<- hr83.symm] at hA84)
      have hA85:=J7_ x9 8
      (try rw[<- hr83.symm] at hA85)
      refine gm tv66 6 [] fun _=>?_;refine ef (ecallm (D6_ _ _) rfl rfl rfl rfl rfl ?_);generalize hr89:As_ r7.2 256=r8;intro w88 w88p;have e90:=e84.trans (Aq_ hr89.symm);have hA90:=I4_ r7.2 256 (by first|assumption|exact Bm_ _)
      (try rw[<- hr89.symm] at hA90)
      refine gm tv66 3 [] fun _=>?_;refine nX ⟨(⟨x8.channel,x8.kind,x8.name,x8.other,x8.key,x8.head,r8.1,x8.n,r7.1,x8.yes⟩:Method),r8.2⟩ ?_ trivial ⟨rfl,rfl,trivial⟩;exact⟨e90,(by first|assumption|exact Bm_ _)⟩
    refine gx tv66 1 ?_;refine nX ⟨x8,x9⟩ ?_ trivial ⟨rfl,rfl,trivial⟩;exact⟨e93,(by first|assumption|exact Bm_ _)⟩
  rintro⟨x10,x11⟩ ⟨hp94,hp94_3⟩;have e95:=L3_ q_o5 hp94;refine gx tv66 2 ?_;obtain⟨o6,e_o6,q_o6⟩:=Ig_ e95;refine Dv_ (ι:=Method×RIn) [2,3,5,6] [0,1,2] (fun ⟨x12,x13⟩=>[]) (fun ⟨x12,x13⟩=>[(3, .box (B14 1) 67 (Method.pc x12)),(4, .box (B14 2) 303 (RIn.pc x13))]) (fun ⟨x12,x13⟩=>o6=(x12,x13)/\RW x13) ?_ ?_
  · refine gx tv66 6 ?_;refine cE e_o6 (fun h96 e97=>?_) (fun h96 e113=>?_)
    · refine gx tv66 3 ?_;refine ef (ecallm (Cw_ _ _) rfl rfl rfl rfl rfl ?_);generalize hr99:Y_ x11 1=r9;intro w98 w98p;have e100:=e97.trans (Aq_ hr99.symm);have hA100:=Gx_ x11 1 (by first|assumption|exact Bm_ _)
      (try rw[<- hr99.symm] at hA100)
      have hA101:=J7_ x11 1
      (try rw[<- hr99.symm] at hA101)
      refine gm tv66 17 [] fun _=>?_;refine cD e100 (fun p105 e106=>?_) (fun p111 e112=>?_)
      · refine gx tv66 2 ?_;refine ef (ecallm (By_ _ _) rfl rfl rfl rfl rfl ?_);generalize hr108:U_ r9.2 4=r10;intro w107 w107p;have e109:=e106.trans (Aq_ hr108.symm);have hA109:=Fd_ r9.2 4 (by first|assumption|exact Bm_ _)
        (try rw[<- hr108.symm] at hA109)
        refine gx tv66 1 ?_;refine nX ⟨(⟨x10.channel,x10.kind,x10.name,x10.other,x10.key,x10.head,x10.body,x10.n,x10.m,decide (r9.1=1)⟩:Method),r10⟩ ?_ trivial ⟨rfl,rfl,trivial⟩;exact⟨e109,(by first|assumption|exact Bm_ _)⟩
      refine gx tv66 1 ?_;refine nX ⟨(⟨x10.channel,x10.kind,x10.name,x10.other,x10.key,x10.head,x10.body,x10.n,x10.m,decide (r9.1=1)⟩:Method),r9.2⟩ ?_ trivial ⟨rfl,rfl,trivial⟩;exact⟨e112,(by first|assumption|exact Bm_ _)⟩
    refine gx tv66 1 ?_;refine nX ⟨x10,x11⟩ ?_ trivial ⟨rfl,rfl,trivial⟩;exact⟨e113,(by first|assumption|exact Bm_ _)⟩
  rintro⟨x12,x13⟩ ⟨hp114,hp114_3⟩;have e115:=L3_ q_o6 hp114;refine gx tv66 4 ?_;refine ef (ecallm (Uu_ _) rfl rfl rfl rfl rfl ?_);generalize hr117:Cs_ x13=r11;intro w116 w116p;have e118:=e115.trans (Aq_ hr117.symm);refine gx tv66 4 ?_;obtain⟨o7,e_o7,q_o7⟩:=Cc_ e118;refine Dv_ (ι:=Int) [2,3,5] [0,1,2,3,4] (fun e_1=>[(8, .int .i64 e_1)]) (fun e_1=>[]) (fun e_1=>o7=e_1) ?_ ?_
  · refine gx tv66 6 ?_;refine cD e_o7 (fun p120 e121=>?_) (fun p125 e126=>?_)
    · refine gx tv66 2 ?_;refine cV e121 R0_ (Ok_ _) rfl fun r12 hr122 e124 w123=>?_;refine gx tv66 2 ?_;refine nX r12 ?_ ⟨rfl,trivial⟩ trivial;exact e124
    refine gx tv66 1 ?_;refine nX r11.1 ?_ ⟨rfl,trivial⟩ trivial;exact e126
  rintro e_1 hp127;have e128:=D5_ q_o7 hp127;refine gx tv66 8 ?_;refine cN e128 (fun p131 e132=>?_) (fun p135 e136=>?_)
  · refine gm tv66 10 [] fun _=>?_;subst e132;exact qr2
  refine gm tv66 10 [] fun _=>?_;subst e136;exact qr2
def tbv67:Tb:=[(5,ty5),(9,ty9),(64,ty64),(158,Tl_)]
theorem tv67:tbB Tryz.prog tbv67=true:=by kernel_rfl
theorem l11_awake:Fn Tryz.prog gb 102 [] (.bool true):=by
  refine fC Tryz.func102 tv67 Tryz.ntmps102 fun w N H hG=>?_;refine gx tv67 8 ?_;refine call (J8_ (⟨1,1,[],[],[],[],[],0,0,false⟩:Method)) rfl rfl fun w1=>?_;refine gm tv67 10 [0] fun B3=>?_;refine call V3_ rfl rfl fun w4=>?_;refine gx tv67 1 ?_;refine ungd rfl rfl ?_;refine call Xw_ rfl rfl fun w5=>?_;refine gx tv67 2 ?_;refine ungd rfl rfl ?_;refine gx tv67 1 ?_;refine ungd rfl rfl ?_;refine gx tv67 1 ?_;refine so_rt (t:=14) (p':= .bool true) (ple (congrArg PV.bool (show decide (((Ch_ (⟨1,1,[],[],[],[],[],0,0,false⟩:Method)).2)=0)=true by decide +kernel))) rfl ?_;refine gx tv67 2 ?_;refine ungd rfl rfl ?_;refine gx tv67 1 ?_;refine ungd rfl rfl ?_;refine gx tv67 1 ?_;refine ungd rfl rfl ?_;refine gx tv67 1 ?_;refine so_rt (t:=19) (p':= .bool true) (ple (congrArg PV.bool (show decide ((((Ch_ (⟨1,1,[],[],[],[],[],0,0,false⟩:Method)).1).kind)=1)=true by decide +kernel))) rfl ?_;refine gx tv67 2 ?_;refine ungd rfl rfl ?_;refine gx tv67 1 ?_;refine ungd rfl rfl ?_;refine gx tv67 1 ?_;refine ungd rfl rfl ?_;refine gx tv67 1 ?_;refine so_rt (t:=24) (p':= .bool true) (ple (congrArg PV.bool (show decide ((((Ch_ (⟨1,1,[],[],[],[],[],0,0,false⟩:Method)).1).channel)=1)=true by decide +kernel))) rfl ?_;refine gx tv67 2 ?_;refine ungd rfl rfl ?_;refine gx tv67 1 ?_;refine ungd rfl rfl ?_;refine gx tv67 1 ?_;refine ungd rfl rfl ?_;refine gx tv67 1 ?_;refine so_rt (t:=29) (p':= .bool true) (ple (congrArg PV.bool (show decide ((((Ch_ (⟨1,1,[],[],[],[],[],0,0,false⟩:Method)).1).body)=[])=true by decide +kernel))) rfl ?_;refine gx tv67 5 ?_;refine rt1 rfl rfl (ple ?_);exact congrArg PV.bool (by first|rfl|decide +kernel)
abbrev ty77:TI:=⟨.slc 137,1,24,[.sl Reply.pc []]⟩
abbrev ty173:TI:=⟨.slc 167,1,24,[.sl Reply.pc []]⟩
def tbv72:Tb:=[(77,ty77),(137,Uw_),(167,ty167),(173,ty173)]
theorem tv72:tbB Tryz.prog tbv72=true:=by kernel_rfl
theorem Hx_ (l:List Reply) (hl:l.length<=1000:=by first|omega|(simp;done)) (ht:∀ r∈l,r.mail.head.length<=1000000:=by first|assumption|exact lr_heads (lr_full (by assumption) (by omega))|(intro q_ hq_;rw[List.mem_singleton.1 hq_];assumption)):Fn Tryz.prog gb 84 [.sl Reply.pc l] (.sl Reply.pc (Ge_ l)):=by
  refine fC Tryz.func84 tv72 Tryz.ntmps84 fun w N H hG=>?_;have e0:=Ge_.eq_1 l;refine gx tv72 19 ?_;refine sw_own (t:=3) (k:=13) (e:=167) 0 Reply.pc rfl rfl ?_;refine loop (ι:=Nat×(List Reply)×Value) [2,6,7] [] (fun ⟨k,out,u_out⟩=>[(8, .int .i64 (k:Int)),(3, .osl 0)]) (fun ⟨k,out,u_out⟩=>[(0, .arr u_out 13 167 Reply.pc out)]) (fun ⟨k,out,u_out⟩=>k<=l.length/\Ge_ l=Fl_ (l.drop k) out/\out.length<=k) (fun ⟨k,out,u_out⟩=>l.length-k) ⟨0,[],(.slice none 0 0)⟩ ⟨rfl,rfl,trivial⟩ ⟨rfl,trivial⟩ ?_ ?_
  · exact⟨Nat.zero_le _,e0,(by first|omega|(simp;done)|(simp;omega))⟩
  rintro⟨k,out,u_out⟩ ⟨hp1_1,hp1_2,hp1_3⟩;refine gx tv72 6 ?_;refine cn rfl (fun p3=>?_) fun p12=>?_
  · have e4:=C1_ (f:=fun zz=>Fl_ zz out) hp1_2 (Fr_ (by omega)) (Fl_.eq_2 _ _ _);have hc5:=getG (xs:=l) (k:=k) (by omega);have ht_hc5:=ht (gt l k) (List.mem_of_getElem? hc5);refine gx tv72 6 ?_;refine q1 (qidx tv72 k rfl rfl rfl hc5 rfl rfl rfl rfl) rfl fun w6=>?_;refine gm tv72 8 [1] fun B8=>?_;refine call (l12_To _ (by first|omega|(have :=Sb_ (gt l k) (by assumption);omega))) rfl rfl fun w9=>?_;refine ef (bsl 2 Reply.pc [(gt l k)] tv72 rfl rfl rfl rfl rfl (fun _=>rfl) rfl (by decide) (by decide) rfl fun u10=>?_);refine ef (app tv72 [(gt l k)] rfl rfl rfl rfl rfl rfl rfl rfl rfl (src_o rfl rfl) (by first|omega|(simp;omega)) rfl fun u11=>?_);refine gy tv72 8 ?_;refine next ⟨(k+1),(out++[(gt l k)]),(u11)⟩ rfl rfl ⟨rfl,rfl,trivial⟩ ⟨rfl,trivial⟩ ?_ ?_
    · (try simp only[]);omega
    exact⟨by (try simp only[]);omega,e4,(by (try simp only[]);first|omega|(simp;done)|(simp;omega)|(simp only[List.length_append,List.length_cons,List.length_nil];omega))⟩
  have e13:=C1_ (f:=fun zz=>Fl_ zz out) hp1_2 (Gb_ (by omega)) (Fl_.eq_1 _);refine gx tv72 11 ?_;refine givec 0 rfl ?_;refine gx tv72 1 ?_;exact rt1 rfl rfl (Au_ (fun r:(List Reply)=> .sl Reply.pc r) e13 (ple rfl))
def tbv74:Tb:=[(5,ty5),(9,ty9),(70,ty70),(137,Uw_),(154,ty154),(158,Tl_)]
theorem tv74:tbB Tryz.prog tbv74=true:=by kernel_rfl
theorem Wh_:Fn Tryz.prog gb 101 [] (.bool (Q6_)):=by
  refine fC Tryz.func101 tv74 Tryz.ntmps101 fun w N H hG=>?_;have e0:=Q6_.eq_1;refine gx tv74 8 ?_;refine call (Rb_ (⟨1,2,[97,98]⟩:Frame)) rfl rfl fun w1=>?_;refine gx tv74 10 ?_;refine call V3_ rfl rfl fun w2=>?_;refine gy tv74 8 ?_;refine cE e0 (fun h3 e4=>?_) (fun h3 e10=>?_)
  · refine gx tv74 7 ?_;exact rt1 rfl rfl (Au_ (fun r:Bool=> .bool r) e4 (ple rfl))
  have h5:=orl h3;have h6:=Bf_ h5;have h7:=orr h3;have h8:=Bf_ h7;have p9:=dt h8;refine gx tv74 7 ?_;refine q1 (sshi tv74 5 rfl rfl rfl rfl rfl (by omega)) rfl fun w11=>?_;refine go tv74 1 rfl rfl ⟨(by first|omega|(simp<;>omega)),trivial⟩ ?_;refine ef (ecallo 0 (Q0_ (⟨[],0⟩:Feed) _) rfl rfl fun u13 w12=>?_);have hfd13:=Tu_ (⟨[],0⟩:Feed) ((Am_ (⟨1,2,[97,98]⟩:Frame))++((Am_ (⟨1,2,[97,98]⟩:Frame)).take 5))
  (try simp only[List.length_nil,List.length_take,List.length_drop] at hfd13)
  refine gm tv74 9 [1] fun B16=>?_;refine aN [2,3,4,5,6,7] 9 mixd ?_;refine gX tv74 [0,1] 7 ?_;refine vq 2 (sslo tv74 5 rfl rfl rfl rfl rfl (by omega)) rfl (by kernel_rfl) rfl fun w17=>?_;refine vE 3 rfl (ecallo 2 (Q0_ _ _) rfl rfl fun u19 w18=>?_);have hfd19:=Tu_ ((Ac_ (⟨[],0⟩:Feed) ((Am_ (⟨1,2,[97,98]⟩:Frame))++((Am_ (⟨1,2,[97,98]⟩:Frame)).take 5))).1) ((Am_ (⟨1,2,[97,98]⟩:Frame)).drop 5)
  (try simp only[List.length_nil,List.length_take,List.length_drop] at hfd19)
  refine gX tv74 [4,5,6] 2 ?_;refine vtp 7 rfl (by kernel_rfl) (by kernel_rfl) (sA tv74 ?_);refine gX tv74 [8] 0 ?_;refine vD ?_;refine gx tv74 4 ?_;refine so_osl (t:=34) 0 rfl rfl ?_;refine gx tv74 3 ?_;refine bcase (decide ((((Ac_ (⟨[],0⟩:Feed) ((Am_ (⟨1,2,[97,98]⟩:Frame))++((Am_ (⟨1,2,[97,98]⟩:Frame)).take 5))).2).length:Int)=1)) (fun h21=>?_) (fun h21=>?_)
  · have p22:=dt h21;have e23:=e10.trans (condT h21);refine so_rt (t:=36) (p':= .bool true) (ple (congrArg PV.bool h21)) rfl ?_;refine so_rt (t:=37) (p':= .bool true) (ple (congrArg PV.bool h21)) rfl ?_;refine ungd rfl rfl ?_;refine gx tv74 1 ?_;refine ungd rfl rfl ?_;refine so_osl (t:=38) 2 rfl rfl ?_;refine gx tv74 1 ?_;refine ungd rfl rfl ?_;refine gx tv74 3 ?_;refine bcase (decide ((((Ac_ ((Ac_ (⟨[],0⟩:Feed) ((Am_ (⟨1,2,[97,98]⟩:Frame))++((Am_ (⟨1,2,[97,98]⟩:Frame)).take 5))).1) ((Am_ (⟨1,2,[97,98]⟩:Frame)).drop 5)).2).length:Int)=1)) (fun h24=>?_) (fun h24=>?_)
    · have p25:=dt h24;have e26:=e23.trans (condT h24);refine so_rt (t:=40) (p':= .bool true) (ple (congrArg PV.bool h24)) rfl ?_;refine so_rt (t:=41) (p':= .bool true) (ple (congrArg PV.bool h24)) rfl ?_;refine so_rt (t:=42) (p':= .bool true) (ple (congrArg PV.bool h24)) rfl ?_;refine ungd rfl rfl ?_;refine gx tv74 1 ?_;refine ungd rfl rfl ?_;refine so_osl (t:=43) 2 rfl rfl ?_;refine so_osl (t:=33) 2 rfl rfl ?_;refine so_osl (t:=5) 2 rfl rfl ?_;refine give 2 rfl ?_;have hc27:=getG (xs:=(Ac_ ((Ac_ (⟨[],0⟩:Feed) ((Am_ (⟨1,2,[97,98]⟩:Frame))++((Am_ (⟨1,2,[97,98]⟩:Frame)).take 5))).1) ((Am_ (⟨1,2,[97,98]⟩:Frame)).drop 5)).2) (k:=0) (by omega);refine q1 (qidx tv74 0 rfl rfl rfl hc27 rfl rfl rfl rfl) rfl fun w28=>?_;refine ungd rfl rfl ?_;refine gx tv74 1 ?_;refine ungd rfl rfl ?_;refine gx tv74 1 ?_;refine ungd rfl rfl ?_;refine gx tv74 4 ?_;refine callg rfl (fun hc=>(feed_Rest _)) rfl ⟨(fun hc=>hc),trivial⟩ rfl rfl fun _=>?_;refine gy tv74 4 ?_;refine callg rfl (fun hc=>(Z8_ _)) rfl ⟨(fun hc=>hc),trivial⟩ rfl rfl fun _=>?_;refine gy tv74 6 ?_;exact rt1 rfl rfl (Au_ (fun r:Bool=> .bool r) e26 (ple rfl))
    have p29:=df h24;have e30:=e23.trans (condF h24);refine so_rt (t:=40) (p':= .bool false) (ple (congrArg PV.bool h24)) rfl ?_;refine so_rt (t:=41) (p':= .bool false) (ple (congrArg PV.bool h24)) rfl ?_;refine so_rt (t:=42) (p':= .bool false) (ple (congrArg PV.bool h24)) rfl ?_;refine ungs rfl rfl rfl ?_;refine ungs rfl rfl rfl ?_;refine ungs rfl rfl rfl ?_;refine ungs rfl rfl rfl ?_;refine ungs rfl rfl rfl ?_;refine gx tv74 2 ?_;refine ungs rfl rfl rfl ?_;refine ungs rfl rfl rfl ?_;refine ungs rfl rfl rfl ?_;refine gx tv74 2 ?_;refine ungs rfl rfl rfl ?_;refine ungs rfl rfl rfl ?_;refine ungs rfl rfl rfl ?_;refine gx tv74 5 ?_;exact rt1 rfl rfl (Au_ (fun r:Bool=> .bool r) e30 (ple rfl))
  have p31:=df h21;have e32:=e10.trans (condF h21);refine so_rt (t:=36) (p':= .bool false) (ple (congrArg PV.bool h21)) rfl ?_;refine so_rt (t:=37) (p':= .bool false) (ple (congrArg PV.bool h21)) rfl ?_;refine ungs rfl rfl rfl ?_;refine ungs rfl rfl rfl ?_;refine ungs rfl rfl rfl ?_;refine gx tv74 2 ?_;refine ungs rfl rfl rfl ?_;refine ungs rfl rfl rfl ?_;refine ungs rfl rfl rfl ?_;refine ungs rfl rfl rfl ?_;refine ungs rfl rfl rfl ?_;refine gx tv74 2 ?_;refine ungs rfl rfl rfl ?_;refine ungs rfl rfl rfl ?_;refine ungs rfl rfl rfl ?_;refine gx tv74 2 ?_;refine ungs rfl rfl rfl ?_;refine ungs rfl rfl rfl ?_;refine ungs rfl rfl rfl ?_;refine gx tv74 5 ?_;exact rt1 rfl rfl (Au_ (fun r:Bool=> .bool r) e32 (ple rfl))
theorem Om_:Fn Tryz.prog gb 61 [] (.bool (Mx_)):=by
  refine fC Tryz.func61 tv74 Tryz.ntmps61 fun w N H hG=>?_;have e0:=Mx_.eq_1;refine gx tv74 7 ?_;refine call Wh_ rfl rfl fun w1=>?_;refine gx tv74 4 ?_;exact rt1 rfl rfl (Au_ (fun r:Bool=> .bool r) e0 (ple rfl))
theorem X4_:Fn Tryz.prog gb 103 [] (.bool (P7_)):=by
  refine fC Tryz.func103 tv74 Tryz.ntmps103 fun w N H hG=>?_;have e0:=P7_.eq_1;refine gx tv74 8 ?_;refine call (Ys_ (⟨1,1,0,0,false,[],(⟨0,[],[],[],[],0,0⟩:Mail)⟩:Reply)) rfl rfl fun w1=>?_;refine gm tv74 10 [0] fun B3=>?_;refine call Om_ rfl rfl fun w4=>?_;refine gx tv74 1 ?_;refine callg rfl (fun hc=>Pr_) rfl trivial rfl rfl fun _=>?_;refine gy tv74 19 ?_;exact rt1 rfl rfl (Au_ (fun r:Bool=> .bool r) e0 (ple rfl))
theorem Xh_:Fn Tryz.prog gb 63 [] (.bool (Qp_)):=by
  refine fC Tryz.func63 tv74 Tryz.ntmps63 fun w N H hG=>?_;have e0:=Qp_.eq_1;refine gx tv74 7 ?_;refine call X4_ rfl rfl fun w1=>?_;refine gx tv74 4 ?_;exact rt1 rfl rfl (Au_ (fun r:Bool=> .bool r) e0 (ple rfl))
abbrev R11_:Int->PV:=fun r=> .int .u64 r
abbrev R12_:(List Reply)->PV:=fun r=> .sl Reply.pc r
theorem cb113:Ah_ Tryz.prog 113:=Z_ Tryz.func113 (by kernel_rfl) (by kernel_rfl)
theorem fl53_1:Fld Tryz.prog 53 1 1:=fun b o w=>by kernel_rfl
theorem sz72:Sz Tryz.prog 72 8:=fun w=>by kernel_rfl
abbrev ty72:TI:=⟨.agg [(0,7),(7,1)],8,104,[.int .i64 0, .sl L_.pc [], .sl LentR.pc [], .bool false, .bool false, .int .u64 0, .sl DeedR.pc [], .bool false]⟩
abbrev ty75:TI:=⟨.agg [(0,1),(1,2),(3,1),(4,1),(5,40)],45,568,[.str [], .str [], .int .i64 0, .bool false, .bool false, .int .i64 0, .sl L_.pc [], .sl LentR.pc [], .bool false, .bool false, .int .u64 0, .sl DeedR.pc [], .bool false, .int .i64 0, .sl L_.pc [], .sl LentR.pc [], .bool false, .bool false, .int .u64 0, .sl DeedR.pc [], .bool false, .int .i64 0, .sl L_.pc [], .sl LentR.pc [], .bool false, .bool false, .int .u64 0, .sl DeedR.pc [], .bool false, .int .i64 0, .sl L_.pc [], .sl LentR.pc [], .bool false, .bool false, .int .u64 0, .sl DeedR.pc [], .bool false, .int .i64 0, .sl L_.pc [], .sl LentR.pc [], .bool false, .bool false, .int .u64 0, .sl DeedR.pc [], .bool false]⟩
def tbv80:Tb:=[(4,ty4),(5,ty5),(9,ty9),(26,ty26),(27,ty27),(28,ty28),(32,ty32),(39,ty39),(40,ty40),(47,ty47),(51,ty51),(53,ty53),(64,ty64),(72,ty72),(75,ty75),(77,ty77),(137,Uw_)]
theorem tv80:tbB Tryz.prog tbv80=true:=by kernel_rfl
theorem Lk_ (place:Bs):Fn Tryz.prog gb 19 [.str place] (.agg (A_.pc (E7_ place))):=by
  refine fC Tryz.func19 tv80 Tryz.ntmps19 fun w N H hG=>?_;have e0:=E7_.eq_1 place;refine gm tv80 13 [0] fun B2=>?_;exact rt1 rfl rfl (Au_ (fun r:A_=> .agg (A_.pc r)) e0 (ple rfl))
theorem Cl_ (m:Method) (e:Int):Fn Tryz.prog gb 70 [.agg (Method.pc m), .int .i64 e] (.sl Reply.pc (Ab_ m e)):=by
  refine fC Tryz.func70 tv80 Tryz.ntmps70 fun w N H hG=>?_;have e0:=Ab_.eq_1 m e;generalize Ab_ m e=z at e0 ⊢;refine gm tv80 13 [0] fun B2=>?_;refine cD e0 (fun p4 e5=>?_) (fun p7 e8=>?_)
  · refine gx tv80 5 ?_;refine ef (bsl 1 Reply.pc [(⟨m.channel,1,0,0,false,[],(⟨0,[],[],[],[],0,0⟩:Mail)⟩:Reply)] tv80 rfl rfl rfl rfl rfl (fun _=>rfl) rfl (by decide) (by decide) rfl fun u6=>?_);refine gx tv80 3 ?_;refine givec 1 rfl ?_;refine gx tv80 2 ?_;subst e5;exact qr1
  refine gx tv80 9 ?_;refine ef (bsl 1 Reply.pc [(⟨m.channel,2,(IntKind.wrap .u64 e),0,false,[],(⟨0,[],[],[],[],0,0⟩:Mail)⟩:Reply)] tv80 rfl rfl rfl rfl rfl (fun _=>rfl) rfl (by decide) (by decide) rfl fun u9=>?_);refine gx tv80 3 ?_;refine givec 1 rfl ?_;refine gx tv80 1 ?_;subst e8;exact qr1
theorem I1_ (m:Method) (tick:Int) (due:Int) (hh:m.head.length<=1000000:=by omega):Fn Tryz.prog gb 110 [.agg (Method.pc m), .int .u64 tick, .int .u64 due] (.agg (DeedR.pc (Bd_ m tick due))):=by
  refine fC Tryz.func110 tv80 Tryz.ntmps110 fun w N H hG=>?_;have e0:=Bd_.eq_1 m tick due;refine gm tv80 7 [0,1] fun B2=>?_;refine aN [1,2,3,4,5,6,7] 14 mixd ?_;refine gX tv80 [0,1,2,3,4,5,6,8,9,10] 4 ?_;refine vE 7 rfl (eC (Hy_ _) rfl fun w4=>?_);refine gX tv80 [11,12] 1 ?_;refine vT 13 rfl (sA tv80 ?_);refine vD ?_;refine gx tv80 2 ?_;exact rt1 rfl rfl (Au_ (fun r:DeedR=> .agg (DeedR.pc r)) e0 (ple rfl))
theorem Kl_ (c:ChanR) (tick:Int) (hc:COk c 10000000:=by first|assumption|exact Qc_ (by assumption) (by omega) (by omega)|exact P3_ (by assumption) (by omega) (by omega)|exact Mf_ (by assumption) (by omega)|exact Fa_ _|exact L2_ _):Fn Tryz.prog gb 72 [.agg (ChanR.pc c), .int .u64 tick] (.sl DeedR.pc (C0_ c tick)):=by
  refine fC Tryz.func72 tv80 Tryz.ntmps72 fun w N H hG=>?_;obtain⟨hc1,hc2,hc3,hc4⟩:=id hc;obtain⟨hcd1,hcd2,hcd3⟩:=id hc4;have e0:=C0_.eq_1 c tick;refine gm tv80 15 [0] fun B2=>?_;refine cV e0 R3_ (Ji_ _) rfl fun r hr3 e5 w4=>?_;have hA5:=uns_len c
  (try rw[<- hr3] at hA5)
  refine gx tv80 5 ?_;refine sw_own (t:=5) (k:=29) (e:=53) 1 DeedR.pc rfl rfl ?_;refine loop (ι:=Nat×(List DeedR)×Value) [1,4,9,10] [0] (fun ⟨k,out,u_out⟩=>[(11, .int .i64 (k:Int)),(5, .osl 1)]) (fun ⟨k,out,u_out⟩=>[(1, .arr u_out 29 53 DeedR.pc out)]) (fun ⟨k,out,u_out⟩=>k<=r.length/\C0_ c tick=Cv_ tick (r.drop k) out/\out.length<=k) (fun ⟨k,out,u_out⟩=>r.length-k) ⟨0,[],(.slice none 0 0)⟩ ⟨rfl,rfl,trivial⟩ ⟨rfl,trivial⟩ ?_ ?_
  · exact⟨Nat.zero_le _,e5,(by first|omega|(simp;done)|(simp;omega))⟩
  rintro⟨k,out,u_out⟩ ⟨hp7_1,hp7_2,hp7_3⟩;refine gx tv80 6 ?_;refine cn rfl (fun p9=>?_) fun p17=>?_
  · have e10:=C1_ (f:=fun zz=>Cv_ tick zz out) hp7_2 (Fr_ (by omega)) (Cv_.eq_2 _ _ _ _);have hc11:=getG (xs:=r) (k:=k) (by omega);refine gx tv80 6 ?_;refine q1 (qidx tv80 k rfl rfl rfl hc11 rfl rfl rfl rfl) rfl fun w12=>?_;refine gm tv80 13 [2] fun B14=>?_;refine ef (bsl 3 DeedR.pc [(⟨8,tick,(⟨[],0,[]⟩:ShopR),(⟨[],0,0,[]⟩:Aa_),(⟨[],[],false,[],[],false⟩:BindR),(gt r k).queue,(gt r k).id,2,0,0,0,(⟨0,[],[],[],[],0,0⟩:Mail),[]⟩:DeedR)] tv80 rfl rfl rfl rfl rfl (fun _=>rfl) rfl (by decide) (by decide) rfl fun u15=>?_);refine ef (app tv80 [(⟨8,tick,(⟨[],0,[]⟩:ShopR),(⟨[],0,0,[]⟩:Aa_),(⟨[],[],false,[],[],false⟩:BindR),(gt r k).queue,(gt r k).id,2,0,0,0,(⟨0,[],[],[],[],0,0⟩:Mail),[]⟩:DeedR)] rfl rfl rfl rfl rfl rfl rfl rfl rfl (src_o rfl rfl) (by first|omega|(simp;omega)) rfl fun u16=>?_);refine gy tv80 8 ?_;refine next ⟨(k+1),(out++[(⟨8,tick,(⟨[],0,[]⟩:ShopR),(⟨[],0,0,[]⟩:Aa_),(⟨[],[],false,[],[],false⟩:BindR),(gt r k).queue,(gt r k).id,2,0,0,0,(⟨0,[],[],[],[],0,0⟩:Mail),[]⟩:DeedR)]),(u16)⟩ rfl rfl ⟨rfl,rfl,trivial⟩ ⟨rfl,trivial⟩ ?_ ?_
    · (try simp only[]);omega
    exact⟨by (try simp only[]);omega,e10,(by (try simp only[List.length_append,List.length_cons,List.length_nil]);omega)⟩
  have e18:=C1_ (f:=fun zz=>Cv_ tick zz out) hp7_2 (Gb_ (by omega)) (Cv_.eq_1 _ _);refine gx tv80 11 ?_;refine givec 1 rfl ?_;refine gx tv80 1 ?_;exact rt1 rfl rfl (Au_ (fun r:(List DeedR)=> .sl DeedR.pc r) e18 (ple rfl))
theorem Ng_ (l:List DeedR) (tick:Int):Fl Tryz.prog gb 113 [.int .u64 tick] (fun u=> .val u) 29 53 DeedR.pc l (Cm_ l tick):=by
  refine fl_cw tv80 Tryz.func113 rfl Tryz.ntmps113 rfl cb113 (fun _=>rfl) rfl fun w l_l u0 N H hG=>?_;have e0:=Cm_.eq_1 l tick;refine gx tv80 14 ?_;refine loop (ι:=Nat×(List DeedR)×Nat×Value) [1,4,7] [] (fun ⟨f,l1,v,u_l1⟩=>[(0, .osl 0),(8, .int .i64 (v:Int))]) (fun ⟨f,l1,v,u_l1⟩=>[(0, .arr u_l1 29 53 DeedR.pc l1)]) (fun ⟨f,l1,v,u_l1⟩=>l.length-v<f/\Cm_ l tick=Fz_ l tick f l1 v/\l1.length=l.length) (fun ⟨f,l1,v,u_l1⟩=>f) ⟨(l.length-0+1),l,0,(u0)⟩ ⟨rfl,rfl,trivial⟩ ⟨rfl,trivial⟩ ?_ ?_
  · exact⟨Nat.lt_succ_self _,e0,rfl⟩
  rintro⟨f,l1,v,u_l1⟩ ⟨hp1_1,hp1_2,hp1_3⟩;obtain⟨f1,rfl⟩:∃ q,f=q+1:=⟨f-1,by omega⟩;have e_f1:=hp1_2.trans (Fz_.eq_2 _ _ _ _ _);refine gx tv80 6 ?_;refine cD e_f1 (fun p3 e4=>?_) (fun p9 e10=>?_)
  · refine gx tv80 14 ?_;refine q1 (eidx v tv80 rfl rfl rfl rfl rfl rfl rfl rfl (by omega)) rfl fun w5=>?_;refine q1 (efld rfl fl53_1) rfl fun w6=>?_;have hc7:=getG (xs:=l1) (k:=v) (by omega);refine ef (est1 (i:=0) v 1 (⟨(gt l1 v).kind,tick,(gt l1 v).shop,(gt l1 v).queue,(gt l1 v).bind,(gt l1 v).name,(gt l1 v).id,(gt l1 v).how,(gt l1 v).frm,(gt l1 v).code,(gt l1 v).number,(gt l1 v).mail,(gt l1 v).text⟩:DeedR) tv80 rfl rfl rfl rfl rfl rfl (by omega) rfl (by decide) (fun _ h=>by obtain rfl :=Option.some.inj (h.symm.trans hc7);rfl) ?_);have hset7:(l1.set v (⟨(gt l1 v).kind,tick,(gt l1 v).shop,(gt l1 v).queue,(gt l1 v).bind,(gt l1 v).name,(gt l1 v).id,(gt l1 v).how,(gt l1 v).frm,(gt l1 v).code,(gt l1 v).number,(gt l1 v).mail,(gt l1 v).text⟩:DeedR)).length=l1.length:=List.length_set ..;refine gy tv80 7 ?_;refine next ⟨f1,(l1.set v (⟨(gt l1 v).kind,tick,(gt l1 v).shop,(gt l1 v).queue,(gt l1 v).bind,(gt l1 v).name,(gt l1 v).id,(gt l1 v).how,(gt l1 v).frm,(gt l1 v).code,(gt l1 v).number,(gt l1 v).mail,(gt l1 v).text⟩:DeedR)),(v+1),(u_l1)⟩ rfl rfl ⟨rfl,rfl,trivial⟩ ⟨rfl,trivial⟩ ?_ ?_
    · (try simp only[]);omega
    exact⟨by (try simp only[]);omega,e4,by (try simp only[List.length_set]);omega⟩
  refine gx tv80 11 ?_;refine sw_val (t:=4) (i:=0) rfl rfl ?_;refine gx tv80 1 ?_;refine ro1 (j:=0) rfl rfl rfl ?_;exact (congrArg (fun r:(List DeedR)=>r) e10).symm
theorem Rr_ (c:ChanR) (m:Method) (hc:COk c 10000000:=by first|assumption|exact Qc_ (by assumption) (by omega) (by omega)|exact P3_ (by assumption) (by omega) (by omega)|exact Mf_ (by assumption) (by omega)|exact Fa_ _|exact L2_ _):Fn Tryz.prog gb 107 [.agg (ChanR.pc c), .agg (Method.pc m)] (.tup [.agg (ChanR.pc ((C6_ c m).1)), .int .i64 ((C6_ c m).2.1), .bool ((C6_ c m).2.2)]):=by
  refine fC Tryz.func107 tv80 Tryz.ntmps107 fun w N H hG=>?_;obtain⟨hc1,hc2,hc3,hc4⟩:=id hc;obtain⟨hcd1,hcd2,hcd3⟩:=id hc4;have e0:=C6_.eq_1 c m;generalize C6_ c m=z at e0 ⊢;refine gm tv80 28 [0,1,2] fun B2=>?_;refine cD e0 (fun p6 e7=>?_) (fun p14 e15=>?_)
  · refine gx tv80 4 ?_;refine cV e7 R7_ (Hq_ _ _) rfl fun r hr8 e10 w9=>?_;have hA10:=credit_ok c m.n
    (try rw[<- hr8] at hA10)
    have hA11:=fun h=>Sm_ (c:=c) (n:=0) m.n h
    (try rw[<- hr8] at hA11)
    (try have hA11b:=hA11 (by first|assumption|omega|exact Mc_|(simp;done)))
    refine gm tv80 18 [] fun _=>?_;subst e10;exact qr3
  refine gx tv80 6 ?_;refine cD e15 (fun p17 e18=>?_) (fun p23 e24=>?_)
  · refine gx tv80 6 ?_;refine cV e18 R7_ (M5_ _ _ _) rfl fun r1 hr19 e21 w20=>?_;refine gm tv80 18 [] fun _=>?_;subst e21;exact qr3
  refine gx tv80 6 ?_;refine cD e24 (fun p26 e27=>?_) (fun p32 e33=>?_)
  · refine gx tv80 4 ?_;refine cV e27 R7_ (L7_ _ _) rfl fun r2 hr28 e30 w29=>?_;refine gm tv80 18 [] fun _=>?_;subst e30;exact qr3
  refine gx tv80 6 ?_;refine cD e33 (fun p35 e36=>?_) (fun p41 e42=>?_)
  · refine gx tv80 2 ?_;refine cV e36 R7_ (Md_ _) rfl fun r3 hr37 e39 w38=>?_;refine gm tv80 18 [] fun _=>?_;subst e39;exact qr3
  refine gx tv80 6 ?_;refine cD e42 (fun p44 e45=>?_) (fun p50 e51=>?_)
  · refine gx tv80 2 ?_;refine cV e45 R7_ (L0_ _) rfl fun r4 hr46 e48 w47=>?_;refine gm tv80 18 [] fun _=>?_;subst e48;exact qr3
  refine gx tv80 6 ?_;refine cD e51 (fun p53 e54=>?_) (fun p59 e60=>?_)
  · refine gx tv80 2 ?_;refine cV e54 R7_ (Iu_ _) rfl fun r5 hr55 e57 w56=>?_;refine gm tv80 18 [] fun _=>?_;subst e57;exact qr3
  refine gm tv80 12 [] fun _=>?_;subst e60;exact qr3
theorem I6_ (s:A_):Fn Tryz.prog gb 21 [.agg (A_.pc s)] (.bool (Ei_ s)):=by
  refine fC Tryz.func21 tv80 Tryz.ntmps21 fun w N H hG=>?_;have e0:=Ei_.eq_1 s;refine gm tv80 14 [0] fun B2=>?_;exact rt1 rfl rfl (Au_ (fun r:Bool=> .bool r) e0 (ple rfl))
theorem Jk_ (s:A_):Fn Tryz.prog gb 23 [.agg (A_.pc s)] (.bool (Et_ s)):=by
  refine fC Tryz.func23 tv80 Tryz.ntmps23 fun w N H hG=>?_;have e0:=Et_.eq_1 s;refine gm tv80 14 [0] fun B2=>?_;exact rt1 rfl rfl (Au_ (fun r:Bool=> .bool r) e0 (ple rfl))
theorem J9_ (s:A_) (m:Method):Fn Tryz.prog gb 69 [.agg (A_.pc s), .agg (Method.pc m)] (.int .i64 (Al_ s m)):=by
  refine fC Tryz.func69 tv80 Tryz.ntmps69 fun w N H hG=>?_;have s_place_l:s.place.length<=9223372036854775807:=w.1.1;have s_feed_rest_l:s.feed.rest.length<=9223372036854775807:=w.1.2.1;have s_feed_err_r:-9223372036854775808<=s.feed.err/\s.feed.err<=9223372036854775807:=w.1.2.2.1;have m_channel_r:0<=m.channel/\m.channel<=255:=w.2.1.1;have m_kind_r:0<=m.kind/\m.kind<=255:=w.2.1.2.1;have m_name_l:m.name.length<=9223372036854775807:=w.2.1.2.2.1;have m_other_l:m.other.length<=9223372036854775807:=w.2.1.2.2.2.1;have m_key_l:m.key.length<=9223372036854775807:=w.2.1.2.2.2.2.1;have m_head_l:m.head.length<=140737488355328:=w.2.1.2.2.2.2.2.1.1;have m_body_l:m.body.length<=9223372036854775807:=w.2.1.2.2.2.2.2.2.1;have m_n_r:0<=m.n/\m.n<=18446744073709551615:=w.2.1.2.2.2.2.2.2.2.1;have m_m_r:0<=m.m/\m.m<=18446744073709551615:=w.2.1.2.2.2.2.2.2.2.2.1;have e0:=Al_.eq_1 s m;generalize Al_ s m=z at e0 ⊢;refine gm tv80 24 [0,1] fun B2=>?_;refine cE e0 (fun h4 e5=>?_) (fun h4 e6=>?_)
  · refine gx tv80 8 ?_;subst e5;exact qr1
  refine gy tv80 17 ?_;refine cE e6 (fun h7 e11=>?_) (fun h7 e12=>?_)
  · have h8:=bl h7;have h9:=Br_ h8;have h10:=br h7;refine gx tv80 8 ?_;subst e11;exact qr1
  refine gy tv80 13 ?_;refine cE e12 (fun h13 e19=>?_) (fun h13 e20=>?_)
  · have h14:=bl h13;have h15:=Br_ h14;have h16:=br h13;have h17:=Br_ h16;have p18:=df h17;refine gx tv80 8 ?_;subst e19;exact qr1
  refine gx tv80 8 ?_;refine cE e20 (fun h21 e23=>?_) (fun h21 e25=>?_)
  · have h22:=Br_ h21;refine gx tv80 8 ?_;subst e23;exact qr1
  have h24:=Bf_ h21;refine gy tv80 11 ?_;refine cE e25 (fun h26 e27=>?_) (fun h26 e32=>?_)
  · refine gx tv80 8 ?_;subst e27;exact qr1
  have h28:=orl h26;have p29:=df h28;have h30:=orr h26;have p31:=df h30;refine gx tv80 8 ?_;refine cD e32 (fun p34 e35=>?_) (fun p36 e37=>?_)
  · refine gx tv80 8 ?_;subst e35;exact qr1
  refine gx tv80 1 ?_;refine aN [2,3,4,5,6,7] 11 mixd ?_;refine gX tv80 [0,1,2] 8 ?_;refine vq 3 (qaia (m.channel).toNat rfl rfl Tryz.underlying73 sz72 (by omega) (by omega)) rfl (by kernel_rfl) rfl fun w38=>?_;refine gX tv80 [4,6,7,8] 3 ?_;refine vE 5 rfl (P0_ (len:=5) (fun q=> .bool ((A5.get s.slots q).isopen)) ((m.channel).toNat) 5 8 7 tv80 rfl rfl rfl rfl rfl rfl (by omega) (bw5 rfl rfl rfl rfl rfl) rfl fun w39=>?_);refine gX tv80 [9,10] 0 ?_;refine vD ?_;refine gx tv80 1 ?_;refine cE e37 (fun h40 e42=>?_) (fun h40 e44=>?_)
  · have p41:=beqT h40;refine gx tv80 8 ?_;subst e42;exact qr1
  have p43:=beqF h40;refine gx tv80 9 ?_;subst e44;exact qr1
theorem D2_ (s:A_) (m:Method) (c:ChanR) (hm:m.channel<=4:=by omega):Fn Tryz.prog gb 108 [.agg (A_.pc s), .agg (Method.pc m), .agg (ChanR.pc c)] (.agg (A_.pc (R_ s m c))):=by
  refine fC Tryz.func108 tv80 Tryz.ntmps108 fun w N H hG=>?_;have s_place_l:s.place.length<=9223372036854775807:=w.1.1;have s_feed_rest_l:s.feed.rest.length<=9223372036854775807:=w.1.2.1;have s_feed_err_r:-9223372036854775808<=s.feed.err/\s.feed.err<=9223372036854775807:=w.1.2.2.1;have m_channel_r:0<=m.channel/\m.channel<=255:=w.2.1.1;have m_kind_r:0<=m.kind/\m.kind<=255:=w.2.1.2.1;have m_name_l:m.name.length<=9223372036854775807:=w.2.1.2.2.1;have m_other_l:m.other.length<=9223372036854775807:=w.2.1.2.2.2.1;have m_key_l:m.key.length<=9223372036854775807:=w.2.1.2.2.2.2.1;have m_head_l:m.head.length<=140737488355328:=w.2.1.2.2.2.2.2.1.1;have m_body_l:m.body.length<=9223372036854775807:=w.2.1.2.2.2.2.2.2.1;have m_n_r:0<=m.n/\m.n<=18446744073709551615:=w.2.1.2.2.2.2.2.2.2.1;have m_m_r:0<=m.m/\m.m<=18446744073709551615:=w.2.1.2.2.2.2.2.2.2.2.1;have c_credit_r:-9223372036854775808<=c.credit/\c.credit<=9223372036854775807:=w.2.2.1.1;have c_takers_l:c.takers.length<=140737488355328:=w.2.2.1.2.1.1;have c_lent_l:c.lent.length<=140737488355328:=w.2.2.1.2.2.1.1;have c_puts_r:0<=c.puts/\c.puts<=18446744073709551615:=w.2.2.1.2.2.2.2.2.1;have c_held_l_l:c.held.l.length<=140737488355328:=w.2.2.1.2.2.2.2.2.2.1.1;have e0:=R_.eq_1 s m c;refine gm tv80 14 [0,1,2,3] fun B2=>?_;refine q1 (qaia (m.channel).toNat rfl rfl Tryz.underlying73 sz72 (by omega) (by omega)) rfl fun w6=>?_;refine gx tv80 1 ?_;refine ef (D1_ (sz:=7) (len:=5) (fun q=>A_.pc (⟨s.place,s.feed,s.begun,s.over,(A5.set s.slots (⟨c,(A5.get s.slots q).isopen⟩:SlotR) q)⟩:A_)) ((m.channel).toNat) 5 8 0 tv80 rfl rfl rfl rfl rfl rfl rfl rfl rfl (by omega) (bw5 rfl rfl rfl rfl rfl) rfl (bw5 rfl rfl rfl rfl rfl) rfl ?_);refine gm tv80 9 [] fun _=>?_;exact rt1 rfl rfl (Au_ (fun r:A_=> .agg (A_.pc r)) e0 (ple rfl))
theorem Jt_ (c:SlotR) (m:Method) (e:Int):Fn Tryz.prog gb 152 [.agg (SlotR.pc c), .agg (Method.pc m), .int .i64 e] (.sl Reply.pc (Bu_ c m e)):=by
  refine fC Tryz.func152 tv80 Tryz.ntmps152 fun w N H hG=>?_;have e0:=Bu_.eq_1 c m e;generalize Bu_ c m e=z at e0 ⊢;refine gm tv80 11 [0,1] fun B2=>?_;refine cV e0 R11_ (Li_ _) rfl fun r hr4 e6 w5=>?_;refine gy tv80 16 ?_;refine cE e6 (fun h7 e12=>?_) (fun h7 e13=>?_)
  · have h8:=bl h7;have p9:=dt h8;have h10:=br h7;have p11:=dt h10;refine gx tv80 8 ?_;exact rt1 rfl rfl (Au_ (fun r:(List Reply)=> .sl Reply.pc r) e12 Ak_)
  refine gx tv80 7 ?_;refine cD e13 (fun p15 e16=>?_) (fun p20 e21=>?_)
  · refine gx tv80 4 ?_;refine cV e16 R12_ (Cl_ _ _) rfl fun r1 hr17 e19 w18=>?_;refine gx tv80 6 ?_;subst e19;exact qr1
  refine gx tv80 7 ?_;refine cD e21 (fun p23 e24=>?_) (fun p26 e27=>?_)
  · refine gx tv80 6 ?_;refine ef (bsl 2 Reply.pc [(⟨m.channel,5,r,0,false,[],(⟨0,[],[],[],[],0,0⟩:Mail)⟩:Reply)] tv80 rfl rfl rfl rfl rfl (fun _=>rfl) rfl (by decide) (by decide) rfl fun u25=>?_);refine gx tv80 3 ?_;refine givec 2 rfl ?_;refine gx tv80 3 ?_;subst e24;exact qr1
  refine gx tv80 11 ?_;refine ef (bsl 2 Reply.pc [(⟨m.channel,6,r,(IntKind.wrap .u64 e),false,[],(⟨0,[],[],[],[],0,0⟩:Mail)⟩:Reply)] tv80 rfl rfl rfl rfl rfl (fun _=>rfl) rfl (by decide) (by decide) rfl fun u28=>?_);refine gx tv80 3 ?_;refine givec 2 rfl ?_;refine gx tv80 1 ?_;subst e27;exact qr1
theorem cb112:Ah_ Tryz.prog 112:=Z_ Tryz.func112 (by kernel_rfl) (by kernel_rfl)
abbrev ty99:TI:=⟨.agg [(0,7),(7,1),(8,1)],9,104,[.int .u64 0, .str [], .str [], .sl Pair.pc [], .str [], .int .u64 0, .int .u8 0, .bool false, .bool false]⟩
abbrev ty153:TI:=⟨.agg [(0,1),(1,1),(2,1)],3,32,[.int .u8 0, .int .u64 0, .str []]⟩
def tbv81:Tb:=[(4,ty4),(5,ty5),(9,ty9),(27,ty27),(28,ty28),(32,ty32),(39,ty39),(44,ty44),(46,ty46),(47,ty47),(49,ty49),(51,ty51),(53,ty53),(64,ty64),(72,ty72),(75,ty75),(99,ty99),(137,Uw_),(153,ty153)]
theorem tv81:tbB Tryz.prog tbv81=true:=by kernel_rfl
theorem Ou_ (m:Method) (tick:Int) (hh:m.head.length<=1000000:=by omega):Fn Tryz.prog gb 106 [.agg (Method.pc m), .int .u64 tick] (.tup [.sl DeedR.pc ((B0_ m tick).1), .bool ((B0_ m tick).2)]):=by
  refine fC Tryz.func106 tv81 Tryz.ntmps106 fun w N H hG=>?_;have e0:=B0_.eq_1 m tick;generalize B0_ m tick=z at e0 ⊢;refine gm tv81 16 [0,1] fun B2=>?_;refine Dv_ (ι:=Nat) [2,4,5,6] [0,1] (fun b4=>[(7, .own 2 b4 0)]) (fun b4=>[(2, .box b4 49 (BindR.pc (⟨m.name,m.other,decide (9<=m.kind),m.key,m.head,m.yes⟩:BindR)))]) (fun b4=>PV.wf (.sl Pair.pc m.head)) ?_ ?_
  · refine aN [2,3,4,5,6,7,8,9] 17 mixd ?_;refine gX tv81 [0,1,2,3,4,5,6,7,8,9,10,12,13] 4 ?_;refine veL 11 [15] (by kernel_rfl) ⟨⟨_,rfl,?_⟩,⟨_,rfl,?_⟩,trivial⟩
    · refine ej rfl (eC (Hy_ _) rfl fun w5=>?_);refine gX tv81 [14] 2 ?_;refine vE 15 rfl (aL tv81 2 fun b6=>?_);refine vE 16 rfl (sA tv81 ?_);refine vD ?_;refine nX (b6) ?_ ⟨rfl,trivial⟩ ⟨rfl,trivial⟩;exact w5
    refine ej rfl (aL tv81 2 fun b7=>?_);refine vE 11 rfl (eC (Hy_ _) rfl fun w8=>?_);refine gX tv81 [14] 1 ?_;refine vE 16 rfl (sA tv81 ?_);refine vD ?_;refine nX (b7) ?_ ⟨rfl,trivial⟩ ⟨rfl,trivial⟩;exact w8
  rintro b4 w9;refine gx tv81 15 ?_;refine cD e0 (fun p11 e12=>?_) (fun p14 e15=>?_)
  · refine aN [1,3,4,5,6,7,8] 13 mixd ?_;refine gX tv81 [0,1,2,3,4,5,6,7,8,9] 3 ?_;refine vE 10 rfl (sO tv81 ?_);refine gX tv81 [11] 1 ?_;refine vT 12 rfl (sA tv81 ?_);refine vD ?_;refine gx tv81 5 ?_;refine ef (bsl 3 DeedR.pc [(⟨0,tick,(⟨m.name,(IntKind.wrap .u8 (min m.n 255)),m.other⟩:ShopR),(⟨[],0,0,[]⟩:Aa_),(⟨[],[],false,[],[],false⟩:BindR),[],0,0,0,0,0,(⟨0,[],[],[],[],0,0⟩:Mail),[]⟩:DeedR)] tv81 rfl rfl rfl rfl rfl (fun _=>rfl) rfl (by decide) (by decide) rfl fun u13=>?_);refine gx tv81 4 ?_;refine givec 3 rfl ?_;refine gx tv81 1 ?_;subst e12;exact qr2
  refine gx tv81 6 ?_;refine cD e15 (fun p17 e18=>?_) (fun p20 e21=>?_)
  · refine aN [1,3,4,5,6,7,8] 6 mixd ?_;refine gX tv81 [0,1,2] 3 ?_;refine vE 3 rfl (sO tv81 ?_);refine gX tv81 [4] 1 ?_;refine vT 5 rfl (sO tv81 ?_);refine vD ?_;refine gx tv81 5 ?_;refine ef (bsl 3 DeedR.pc [(⟨1,tick,(⟨[],0,[]⟩:ShopR),(⟨[],0,0,[]⟩:Aa_),(⟨[],[],false,[],[],false⟩:BindR),m.name,0,0,0,0,0,(⟨0,[],[],[],[],0,0⟩:Mail),[]⟩:DeedR)] tv81 rfl rfl rfl rfl rfl (fun _=>rfl) rfl (by decide) (by decide) rfl fun u19=>?_);refine gx tv81 4 ?_;refine givec 3 rfl ?_;refine gx tv81 1 ?_;subst e18;exact qr2
  refine gx tv81 6 ?_;refine cD e21 (fun p23 e24=>?_) (fun p26 e27=>?_)
  · refine aN [1,3,4,5,6,7,8] 13 mixd ?_;refine gX tv81 [0,1,2,3,4,5,6,7,8,9] 3 ?_;refine vE 10 rfl (sO tv81 ?_);refine gX tv81 [11] 1 ?_;refine vT 12 rfl (sA tv81 ?_);refine vD ?_;refine gx tv81 5 ?_;refine ef (bsl 3 DeedR.pc [(⟨2,tick,(⟨[],0,[]⟩:ShopR),(⟨m.name,m.n,m.m,m.other⟩:Aa_),(⟨[],[],false,[],[],false⟩:BindR),[],0,0,0,0,0,(⟨0,[],[],[],[],0,0⟩:Mail),[]⟩:DeedR)] tv81 rfl rfl rfl rfl rfl (fun _=>rfl) rfl (by decide) (by decide) rfl fun u25=>?_);refine gx tv81 4 ?_;refine givec 3 rfl ?_;refine gx tv81 1 ?_;subst e24;exact qr2
  refine gx tv81 6 ?_;refine cD e27 (fun p29 e30=>?_) (fun p32 e33=>?_)
  · refine aN [1,3,4,5,6,7,8] 6 mixd ?_;refine gX tv81 [0,1,2] 3 ?_;refine vE 3 rfl (sO tv81 ?_);refine gX tv81 [4] 1 ?_;refine vT 5 rfl (sO tv81 ?_);refine vD ?_;refine gx tv81 5 ?_;refine ef (bsl 3 DeedR.pc [(⟨3,tick,(⟨[],0,[]⟩:ShopR),(⟨[],0,0,[]⟩:Aa_),(⟨[],[],false,[],[],false⟩:BindR),m.name,0,0,0,0,0,(⟨0,[],[],[],[],0,0⟩:Mail),[]⟩:DeedR)] tv81 rfl rfl rfl rfl rfl (fun _=>rfl) rfl (by decide) (by decide) rfl fun u31=>?_);refine gx tv81 4 ?_;refine givec 3 rfl ?_;refine gx tv81 1 ?_;subst e30;exact qr2
  refine gx tv81 1 ?_;obtain⟨o,e_o,q_o⟩:=Cc_ e33;refine Dv_ (ι:=Bool) [4,5,6,7,26] [0,1,2] (fun v=>[(65, .bool v)]) (fun v=>[]) (fun v=>o=v) ?_ ?_
  · refine gx tv81 6 ?_;refine cD e_o (fun p35 e36=>?_) (fun p37 e38=>?_)
    · refine gx tv81 1 ?_;refine nX (decide (m.kind=7)) ?_ ⟨rfl,trivial⟩ trivial;exact e36
    refine gx tv81 4 ?_;refine nX (decide (m.kind=9)) ?_ ⟨rfl,trivial⟩ trivial;exact e38
  rintro v hp39;have e40:=D5_ q_o hp39;refine gx tv81 1 ?_;refine cE e40 (fun h41 e42=>?_) (fun h41 e44=>?_)
  · refine aN [1,3,4,5,6,7,8] 5 mixd ?_;refine gX tv81 [0,1] 3 ?_;refine vE 2 rfl (sO tv81 ?_);refine gX tv81 [3] 1 ?_;refine vT 4 rfl (sA tv81 ?_);refine vD ?_;refine gx tv81 5 ?_;refine ef (bsl 3 DeedR.pc [(⟨4,tick,(⟨[],0,[]⟩:ShopR),(⟨[],0,0,[]⟩:Aa_),(⟨m.name,m.other,decide (9<=m.kind),m.key,m.head,m.yes⟩:BindR),[],0,0,0,0,0,(⟨0,[],[],[],[],0,0⟩:Mail),[]⟩:DeedR)] tv81 rfl rfl rfl rfl rfl (fun _=>rfl) rfl (by decide) (by decide) rfl fun u43=>?_);refine gx tv81 4 ?_;refine givec 3 rfl ?_;refine gx tv81 1 ?_;subst e42;exact qr2
  refine gx tv81 1 ?_;obtain⟨o1,e_o1,q_o1⟩:=Cc_ e44;refine Dv_ (ι:=Bool) [4,5,6,7] [0,1,2] (fun v1=>[(71, .bool v1)]) (fun v1=>[]) (fun v1=>o1=v1) ?_ ?_
  · refine gx tv81 6 ?_;refine cD e_o1 (fun p46 e47=>?_) (fun p48 e49=>?_)
    · refine gx tv81 1 ?_;refine nX (decide (m.kind=8)) ?_ ⟨rfl,trivial⟩ trivial;exact e47
    refine gx tv81 4 ?_;refine nX (decide (m.kind=10)) ?_ ⟨rfl,trivial⟩ trivial;exact e49
  rintro v1 hp50;have e51:=D5_ q_o1 hp50;refine gx tv81 1 ?_;refine cE e51 (fun h52 e53=>?_) (fun h52 e55=>?_)
  · refine aN [1,3,4,5,6,7,8] 5 mixd ?_;refine gX tv81 [0,1] 3 ?_;refine vE 2 rfl (sO tv81 ?_);refine gX tv81 [3] 1 ?_;refine vT 4 rfl (sA tv81 ?_);refine vD ?_;refine gx tv81 5 ?_;refine ef (bsl 3 DeedR.pc [(⟨5,tick,(⟨[],0,[]⟩:ShopR),(⟨[],0,0,[]⟩:Aa_),(⟨m.name,m.other,decide (9<=m.kind),m.key,m.head,m.yes⟩:BindR),[],0,0,0,0,0,(⟨0,[],[],[],[],0,0⟩:Mail),[]⟩:DeedR)] tv81 rfl rfl rfl rfl rfl (fun _=>rfl) rfl (by decide) (by decide) rfl fun u54=>?_);refine gx tv81 4 ?_;refine givec 3 rfl ?_;refine gx tv81 1 ?_;subst e53;exact qr2
  refine gx tv81 9 ?_;subst e55;exact rt2 rfl rfl (Ba_ (B_ Ak_ (B_ (ple rfl) Ag_)))
theorem Io_ (c:ChanR) (m:Method) (tick:Int) (hc:COk c 10000000:=by first|assumption|exact Qc_ (by assumption) (by omega) (by omega)|exact P3_ (by assumption) (by omega) (by omega)|exact Mf_ (by assumption) (by omega)|exact Fa_ _|exact L2_ _):Fo Tryz.prog gb 112 [.agg (ChanR.pc c), .agg (Method.pc m), .int .u64 tick] (fun u=> .tup [.val u, .int .i64 ((A6_ c m tick).2)]) 29 53 DeedR.pc ((A6_ c m tick).1):=by
  refine Ro_ tv81 Tryz.func112 rfl Tryz.ntmps112 rfl cb112 (fun _=>rfl) rfl fun w N H hG=>?_;obtain⟨hc1,hc2,hc3,hc4⟩:=id hc;obtain⟨hcd1,hcd2,hcd3⟩:=id hc4;have e0:=A6_.eq_1 c m tick;refine gm tv81 16 [0,1] fun B2=>?_;refine cD e0 (fun p5 e6=>?_) (fun p12 e13=>?_)
  · refine gx tv81 4 ?_;refine ef (ecallo 2 (M4_ _ _) rfl rfl ?_);generalize hr9:A4_ c tick=r;intro u8 w7;have e10:=e6.trans (Aq_ hr9.symm);have hr9:=hr9.symm;have hA10:=held_len c tick
    (try rw[<- hr9] at hA10)
    refine gx tv81 6 ?_;refine gx tv81 2 ?_;refine roN (j:=2) u8 rfl rfl rfl rfl ?_ ?_
    · exact (congrArg (fun r:(List DeedR)×Int=>r.1) e10).symm
    exact Au_ (fun r:(List DeedR)×Int=> .tup [.val u8, .int .i64 r.2]) e10 (ple rfl)
  refine gx tv81 11 ?_;refine ef (ecallo 2 (Kp_ _ _ _ _) rfl rfl ?_);generalize hr16:Q_ c m.n m.m m.yes=r1;intro u15 w14;have e17:=e13.trans (Aq_ hr16.symm);have hr16:=hr16.symm;have hA17:=sets_len c m.n m.m m.yes
  (try rw[<- hr16] at hA17)
  refine gx tv81 11 ?_;refine so_osl (t:=29) 2 rfl rfl ?_;refine ef (ecallw (Ng_ _ _) rfl rfl rfl rfl rfl rfl ?_);generalize hr21:Cm_ r1.1 tick=r2;intro u19 w20;have e22:=e17.trans (Aq_ hr21.symm);have hr21:=hr21.symm;have hA22:=Ud_ r1.1 tick
  (try rw[<- hr21] at hA22)
  refine gx tv81 5 ?_;refine gx tv81 1 ?_;refine roN (j:=2) u19 rfl rfl rfl rfl ?_ ?_
  · exact (congrArg (fun r:(List DeedR)×Int=>r.1) e22).symm
  exact Au_ (fun r:(List DeedR)×Int=> .tup [.val u19, .int .i64 r.2]) e22 (ple rfl)
theorem Co_ (s:A_) (t:TakerS) (x:ItemR) (hs:SOk s 10000000:=by first|assumption|exact Ff_ (by assumption) (by omega)) (hh:x.mail.head.length<=1000000:=by omega):Fn Tryz.prog gb 81 [.agg (A_.pc s), .agg (TakerS.pc t), .agg (ItemR.pc x)] (.tup [.agg (A_.pc ((M_ s t x).1)), .agg (Reply.pc ((M_ s t x).2))]):=by
  refine fC Tryz.func81 tv81 Tryz.ntmps81 fun w N H hG=>?_;have s_place_l:s.place.length<=9223372036854775807:=w.1.1;have s_feed_rest_l:s.feed.rest.length<=9223372036854775807:=w.1.2.1;have s_feed_err_r:-9223372036854775808<=s.feed.err/\s.feed.err<=9223372036854775807:=w.1.2.2.1;have t_channel_r:0<=t.channel/\t.channel<=255:=w.2.1.1;have t_tag_r:0<=t.tag/\t.tag<=18446744073709551615:=w.2.1.2.1;have t_queue_l:t.queue.length<=9223372036854775807:=w.2.1.2.2.1;have x_mail_id_r:0<=x.mail.id/\x.mail.id<=18446744073709551615:=w.2.2.1.1;have x_mail_shop_l:x.mail.shop.length<=9223372036854775807:=w.2.2.1.2.1;have x_mail_key_l:x.mail.key.length<=9223372036854775807:=w.2.2.1.2.2.1;have x_mail_head_l:x.mail.head.length<=140737488355328:=w.2.2.1.2.2.2.1.1;have x_mail_body_l:x.mail.body.length<=9223372036854775807:=w.2.2.1.2.2.2.2.1;have x_mail_due_r:0<=x.mail.due/\x.mail.due<=18446744073709551615:=w.2.2.1.2.2.2.2.2.1;have x_mail_hops_r:0<=x.mail.hops/\x.mail.hops<=255:=w.2.2.1.2.2.2.2.2.2.1;have e0:=M_.eq_1 s t x;generalize M_ s t x=z at e0 ⊢;refine gmy tv81 19 [0,1,2,3,4] fun B2=>?_;refine q1g [14,15] rfl (fun hc=>qaia (t.channel).toNat rfl rfl Tryz.underlying73 sz72 (by omega) (by first|omega|(simp only[gOf,bl2] at *;omega))) ⟨(fun hc=>hc),(fun hc=>hc),trivial⟩ rfl rfl rfl fun _=>?_;refine gy tv81 1 ?_;refine q1gL [17] rfl (fun hc=>lyS1 (len:=5) (fun q=> .bool ((A5.get s.slots q).isopen)) ((t.channel).toNat) 5 8 7 tv81 rfl rfl rfl rfl rfl rfl (by first|omega|(simp only[gOf,bl2] at *;omega)) (fun _=>rfl) (bw5 rfl rfl rfl rfl rfl)) ⟨(fun hc=>hc),trivial⟩ rfl rfl fun _=>?_;refine gy tv81 4 ?_;refine cE e0 (fun h7 e8=>?_) (fun h7 e14=>?_)
  · refine gm tv81 10 [] fun _=>?_;subst e8;exact qr2
  have h10:=orl h7;have p11:=df h10;have h12:=orr h7;have h13:=Bf_ h12;refine gm tv81 11 [5] fun B16=>?_;refine aN [6,7,8,9,10,11] 18 mixd ?_;refine gX tv81 [0,1,2,3,4] 13 ?_;refine vq 5 (qaia (t.channel).toNat rfl rfl Tryz.underlying73 sz72 (by omega) (by omega)) rfl (by kernel_rfl) rfl fun w17=>?_;refine gX tv81 [6,8,9,10,11,12,14] 5 ?_;refine vE 7 rfl (Iz_ (sz:=7) (len:=5) (fun q=>[.int .i64 ((A5.get s.slots q).chan.credit), .sl L_.pc ((A5.get s.slots q).chan.takers), .sl LentR.pc ((A5.get s.slots q).chan.lent), .bool ((A5.get s.slots q).chan.sure), .bool ((A5.get s.slots q).chan.drafts), .int .u64 ((A5.get s.slots q).chan.puts), .sl DeedR.pc ((A5.get s.slots q).chan.held.l)]) ((t.channel).toNat) 5 8 0 tv81 rfl rfl rfl rfl rfl rfl rfl (by omega) (bw5 rfl rfl rfl rfl rfl) (bw5 rfl rfl rfl rfl rfl) rfl fun w18=>?_);refine vE 13 rfl (eC (Ik_ ((A5.get s.slots ((t.channel).toNat)).chan) (⟨x.mail.id,t.queue⟩:LentR) (hn:=by first|omega|exact sok_ln (by assumption) (by omega) (by omega))) rfl ?_);generalize hr20:B4_ ((A5.get s.slots ((t.channel).toNat)).chan) (⟨x.mail.id,t.queue⟩:LentR)=r;intro w19;have e21:=e14.trans (Aq_ hr20.symm);have hr20:=hr20.symm
  (try have hA21:=Zu_ (c:=((A5.get s.slots ((t.channel).toNat)).chan)) (⟨x.mail.id,t.queue⟩:LentR) (by assumption);(try rw[<- hr20] at hA21))
  refine vq 15 (qaia (t.channel).toNat rfl rfl Tryz.underlying73 sz72 (by omega) (by omega)) rfl (by kernel_rfl) rfl fun w23=>?_;refine gX tv81 [16] 1 ?_;refine vtp 17 rfl (by kernel_rfl) (by kernel_rfl) (D1_ (sz:=7) (len:=5) (fun q=>A_.pc (⟨s.place,s.feed,s.begun,s.over,(A5.set s.slots (⟨r,(A5.get s.slots q).isopen⟩:SlotR) q)⟩:A_)) ((t.channel).toNat) 5 8 0 tv81 rfl rfl rfl rfl rfl rfl rfl rfl rfl (by omega) (bw5 rfl rfl rfl rfl rfl) rfl (bw5 rfl rfl rfl rfl rfl) rfl ?_);refine vD ?_;refine gx tv81 2 ?_;refine aN [3,4,6,7,8,9,10,11] 22 mixd ?_;refine gX tv81 [0,1,2,3,4,5,6,7,8,9,10,11,12,13,14,16,17] 5 ?_;refine vE 15 rfl (eC (Hy_ _) rfl fun w24=>?_);refine gX tv81 [18,19] 2 ?_;refine vE 20 rfl (sA tv81 ?_);refine vT 21 rfl (sA tv81 ?_);refine vD ?_;refine gx tv81 2 ?_;subst e21;exact qr2
end Go.SW.V
